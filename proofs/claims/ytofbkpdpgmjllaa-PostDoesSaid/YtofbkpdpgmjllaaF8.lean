-- Written by a program of this session (xprint.py), out of the translation and of contracts proved by hand.
import Derived.Test.YtofbkpdpgmjllaaF0
namespace Go.Proofs.Ytofbkpdpgmjllaa.F
open Go.RowKit Go.Proofs.YtofbkpdpgmjllaaV.PrintWords Go.Proofs.YtofbkpdpgmjllaaV.PrintLast Go.Proofs.YtofbkpdpgmjllaaV.PrintMore
attribute [local go_sem] max2_int min2_int max_two min_two max_three min_three max_four min_four   -- for this text's walks alone
set_option linter.unusedVariables false
set_option linter.unusedSimpArgs false

/-! ### watchmanref21_Is: function 26 -/
mutual
def watchmanref21_Is.j0 : Nat → Bool → Int → List (S35) → Option (Bool)
  | 0, _, _, _ => none
  | k + 1, x18, x124000, x124001 => if x18 = true then (some false) else (watchmanref21_Is.l0 k 0 x124000 x124001)
def watchmanref21_Is.l0 : Nat → Int → Int → List (S35) → Option (Bool)
  | 0, _, _, _ => none
  | k + 1, x3, x124000, x124001 => if x3 < (x124001.length : Int) then (if 0 ≤ x3 then (if ((rd_T35 x124001 x3).f0) < 0 then (watchmanref21_Is.j2 k x3 true x124000 x124001) else (if ((rd_T35 x124001 x3).f0) ≥ x124000 then (watchmanref21_Is.j2 k x3 true x124000 x124001) else (if x3 > 0 then (if 0 ≤ (wrap64 (x3 - 1)) then (if (wrap64 (x3 - 1)) < (x124001.length : Int) then (if ((rd_T35 x124001 (wrap64 (x3 - 1))).f0) ≥ ((rd_T35 x124001 x3).f0) then (watchmanref21_Is.j2 k x3 true x124000 x124001) else (if ((rd_T35 x124001 x3).f1) < 0 then (watchmanref21_Is.j2 k x3 true x124000 x124001) else (if ((rd_T35 x124001 x3).f1) > 20 then (watchmanref21_Is.j2 k x3 true x124000 x124001) else (if ((rd_T35 x124001 x3).f2) < 0 then (watchmanref21_Is.j2 k x3 true x124000 x124001) else (if ((rd_T35 x124001 x3).f2) > 20 then (watchmanref21_Is.j2 k x3 true x124000 x124001) else (watchmanref21_Is.j2 k x3 (decide ((((rd_T35 x124001 x3).f3).size : Int) > 2000)) x124000 x124001)))))) else (none)) else (none)) else (if ((rd_T35 x124001 x3).f1) < 0 then (watchmanref21_Is.j2 k x3 true x124000 x124001) else (if ((rd_T35 x124001 x3).f1) > 20 then (watchmanref21_Is.j2 k x3 true x124000 x124001) else (if ((rd_T35 x124001 x3).f2) < 0 then (watchmanref21_Is.j2 k x3 true x124000 x124001) else (if ((rd_T35 x124001 x3).f2) > 20 then (watchmanref21_Is.j2 k x3 true x124000 x124001) else (watchmanref21_Is.j2 k x3 (decide ((((rd_T35 x124001 x3).f3).size : Int) > 2000)) x124000 x124001)))))))) else (none)) else (some true)
def watchmanref21_Is.j2 : Nat → Int → Bool → Int → List (S35) → Option (Bool)
  | 0, _, _, _, _ => none
  | k + 1, x3, x82, x124000, x124001 => if x82 = true then (some false) else (watchmanref21_Is.l0 k (wrap64 (x3 + 1)) x124000 x124001)
end
def watchmanref21_Is.f (k : Nat) (a0_0 : Int) (l0_1 : List (S35)) : Option (Bool) := if a0_0 < 0 then (watchmanref21_Is.j0 k true a0_0 l0_1) else (if a0_0 > 1000000000 then (watchmanref21_Is.j0 k true a0_0 l0_1) else (watchmanref21_Is.j0 k (decide ((l0_1.length : Int) > 200)) a0_0 l0_1))
theorem watchmanref21_Is.mono_l : ∀ k, (∀ y0 y1 y2, LeO (watchmanref21_Is.j0 k y0 y1 y2) (watchmanref21_Is.j0 (k + 1) y0 y1 y2)) ∧ (∀ y0 y1 y2, LeO (watchmanref21_Is.l0 k y0 y1 y2) (watchmanref21_Is.l0 (k + 1) y0 y1 y2)) ∧ (∀ y0 y1 y2 y3, LeO (watchmanref21_Is.j2 k y0 y1 y2 y3) (watchmanref21_Is.j2 (k + 1) y0 y1 y2 y3))
  | 0 => ⟨fun _ _ _ r h => by simp [watchmanref21_Is.j0] at h, fun _ _ _ r h => by simp [watchmanref21_Is.l0] at h, fun _ _ _ _ r h => by simp [watchmanref21_Is.j2] at h⟩
  | k + 1 => by
    obtain ⟨ih0, ih1, ih2⟩ := watchmanref21_Is.mono_l k
    refine ⟨?_, ?_, ?_⟩
    · intro y0 y1 y2
      unfold watchmanref21_Is.j0
      repeat' first
      | (with_reducible exact ih0 _ _ _)
      | (with_reducible exact ih1 _ _ _)
      | (with_reducible exact ih2 _ _ _ _)
      | (with_reducible exact LeO.refl _)
      | (with_reducible exact LeO.none _)
      | (with_reducible refine LeO.ite ?_ ?_)
      | (with_reducible refine LeO.bind ?_ (fun _ => ?_))
      | exact ih0 _ _ _
      | exact ih1 _ _ _
      | exact ih2 _ _ _ _
      | exact LeO.none _
      | refine LeO.ite ?_ ?_
      | refine LeO.bind ?_ (fun _ => ?_)
    · intro y0 y1 y2
      unfold watchmanref21_Is.l0
      repeat' first
      | (with_reducible exact ih0 _ _ _)
      | (with_reducible exact ih1 _ _ _)
      | (with_reducible exact ih2 _ _ _ _)
      | (with_reducible exact LeO.refl _)
      | (with_reducible exact LeO.none _)
      | (with_reducible refine LeO.ite ?_ ?_)
      | (with_reducible refine LeO.bind ?_ (fun _ => ?_))
      | exact ih0 _ _ _
      | exact ih1 _ _ _
      | exact ih2 _ _ _ _
      | exact LeO.none _
      | refine LeO.ite ?_ ?_
      | refine LeO.bind ?_ (fun _ => ?_)
    · intro y0 y1 y2 y3
      unfold watchmanref21_Is.j2
      repeat' first
      | (with_reducible exact ih0 _ _ _)
      | (with_reducible exact ih1 _ _ _)
      | (with_reducible exact ih2 _ _ _ _)
      | (with_reducible exact LeO.refl _)
      | (with_reducible exact LeO.none _)
      | (with_reducible refine LeO.ite ?_ ?_)
      | (with_reducible refine LeO.bind ?_ (fun _ => ?_))
      | exact ih0 _ _ _
      | exact ih1 _ _ _
      | exact ih2 _ _ _ _
      | exact LeO.none _
      | refine LeO.ite ?_ ?_
      | refine LeO.bind ?_ (fun _ => ?_)
theorem watchmanref21_Is.mono : ∀ a0 a1 k, LeO (watchmanref21_Is.f k a0 a1) (watchmanref21_Is.f (k + 1) a0 a1) := by
  intro a0 a1 k
  obtain ⟨ih0, ih1, ih2⟩ := watchmanref21_Is.mono_l k
  unfold watchmanref21_Is.f
  repeat' first
      | (with_reducible exact ih0 _ _ _)
      | (with_reducible exact ih1 _ _ _)
      | (with_reducible exact ih2 _ _ _ _)
      | (with_reducible exact LeO.refl _)
      | (with_reducible exact LeO.none _)
      | (with_reducible refine LeO.ite ?_ ?_)
      | (with_reducible refine LeO.bind ?_ (fun _ => ?_))
      | exact ih0 _ _ _
      | exact ih1 _ _ _
      | exact ih2 _ _ _ _
      | exact LeO.none _
      | refine LeO.ite ?_ ?_
      | refine LeO.bind ?_ (fun _ => ?_)
set_option maxHeartbeats 8000000 in
set_option maxRecDepth 100000 in
theorem watchmanref21_Is.calls (k : Nat) (a0_0 : Int) (A0_1 : Option Addr) (c0_1 : Nat) (l0_1 : List (S35)) (r : Bool) (w : World) (hr0_1 : Kd.C k35 w A0_1 l0_1.length l0_1) (hc0_1 : l0_1.length ≤ c0_1) (h : watchmanref21_Is.f k a0_0 l0_1 = some r) :
    Calls Try.prog 26 #[.agg #[.int .i64 a0_0, .slice A0_1 l0_1.length c0_1]] w fun e w' => e = .returned (.bool r) ∧ Below w.heap.size w w' := by
  have hu24 := Try.underlying24
  have hu35 := Try.underlying35
  have HR0_1 := Aside0.mk hr0_1
  have HC0_1 := Aside0.mk hc0_1
  clear hr0_1 hc0_1
  have HB := Aside0.mk (Below.refl w.heap.size w)
  have H : (if a0_0 < 0 then (watchmanref21_Is.j0 k true a0_0 l0_1) else (if a0_0 > 1000000000 then (watchmanref21_Is.j0 k true a0_0 l0_1) else (watchmanref21_Is.j0 k (decide ((l0_1.length : Int) > 200)) a0_0 l0_1))) = some r := h
  clear h
  have HC2 := Aside0.mk H
  clear H
  go_enter Try.func26, Try.ntmps26
  go_upto_region 1 with (first | ((with_reducible refine gate_dst (N := 1) rfl ?_); (try (refine gate_guard (by rfl) ?_; dsimp only)); refine box_event ?hg (N := 1) ?hd (cs := #[.int .i64 a0_0, .slice A0_1 l0_1.length c0_1]) (t := 24) ?hr ?_; (case hd => rfl); (case hg => rfl); (case hr => first | (go_simp; done) | (go_simp; rfl)); intro gb123 hg w3 hbox hb; have BK123 := Aside0.mk (hbox); have GW123 := Aside0.mk ((by rw [hg]; exact (below_size HB.out) : w.heap.size ≤ gb123)); have GE123 := Aside0.mk ((by rw [hg]; exact (below_size HB.out) : w.heap.size ≤ gb123)); replace HB := Aside0.mk (below_step HB.out hb); clear hb hbox hg))
  (try simp only [Act.put, List.setIfInBounds_toArray, List.set_cons_zero, List.set_cons_succ])
  go_cut [18] (fun v18 wc => ∃ (kq : Nat) (x18_1 : Bool), v18 = .bool x18_1 ∧ Aside0 (watchmanref21_Is.j0 kq x18_1 a0_0 l0_1 = some r) ∧ Aside0 (kq ≤ k) ∧ Aside0 (wc.heap[gb123]? = some (.cells #[.int .i64 a0_0, (.slice A0_1 l0_1.length c0_1)] 24 (0, 0))) ∧ Aside0 (Below w.heap.size w wc))
  case first =>
    have H := HC2.out
    clear HC2
    by_cases c4 : a0_0 < 0
    · rw [if_pos c4] at H
      have c4b0 : decide (a0_0 < 0) = true := decide_eq_true c4
      clear c4
      (first | rw [c4b0] | (simp only [i64_w, i32_w]; rw [c4b0]) | skip)
      have H' := Aside0.mk H
      clear H
      have hcz5_0 : w3.cell? ⟨gb123, 0, none⟩ = some (.int .i64 a0_0) := (blk_cell BK123.out 0).trans rfl
      have hcz5_1 : w3.cell? ⟨gb123, 1, none⟩ = some (.slice A0_1 l0_1.length c0_1) := (blk_cell BK123.out 1).trans rfl
      have hfz5_0 := blk_frozen BK123.out 0
      have hfz5_1 := blk_frozen BK123.out 1
      go_wp2
      repeat (go_quiet (fail); try go_wp2)
      go_meet
      case rel => exact ⟨_, (true), (by first | rfl | (simp; done) | (simp [*]; done)), H', ⟨by first | omega | exact Nat.le_refl _⟩, ⟨by (with_reducible repeat (first | refine blk_drewN ?_ _ | refine blk_drew ?_ | refine blk_alloc ?_ _)); exact BK123.out⟩, ⟨by repeat (with_reducible first | exact HB.out | apply pw_below_drewN | apply below_drew1 | refine below_set ?_ GE123.out)⟩⟩
    · rw [if_neg c4] at H
      have c4b0 : decide (a0_0 < 0) = false := decide_eq_false c4
      clear c4
      (first | rw [c4b0] | (simp only [i64_w, i32_w]; rw [c4b0]) | skip)
      by_cases c6 : a0_0 > 1000000000
      · rw [if_pos c6] at H
        have c6b0 : decide (1000000000 < a0_0) = true := decide_eq_true c6
        clear c6
        have H' := Aside0.mk H
        clear H
        have hcz7_0 : w3.cell? ⟨gb123, 0, none⟩ = some (.int .i64 a0_0) := (blk_cell BK123.out 0).trans rfl
        have hcz7_1 : w3.cell? ⟨gb123, 1, none⟩ = some (.slice A0_1 l0_1.length c0_1) := (blk_cell BK123.out 1).trans rfl
        have hfz7_0 := blk_frozen BK123.out 0
        have hfz7_1 := blk_frozen BK123.out 1
        go_wp2
        repeat (go_quiet (fail); try go_wp2)
        go_meet
        case rel => exact ⟨_, (true), (by first | rfl | (simp; done) | (simp [*]; done)), H', ⟨by first | omega | exact Nat.le_refl _⟩, ⟨by (with_reducible repeat (first | refine blk_drewN ?_ _ | refine blk_drew ?_ | refine blk_alloc ?_ _)); exact BK123.out⟩, ⟨by repeat (with_reducible first | exact HB.out | apply pw_below_drewN | apply below_drew1 | refine below_set ?_ GE123.out)⟩⟩
      · rw [if_neg c6] at H
        have c6b0 : decide (1000000000 < a0_0) = false := decide_eq_false c6
        clear c6
        have H' := Aside0.mk H
        clear H
        have hcz8_0 : w3.cell? ⟨gb123, 0, none⟩ = some (.int .i64 a0_0) := (blk_cell BK123.out 0).trans rfl
        have hcz8_1 : w3.cell? ⟨gb123, 1, none⟩ = some (.slice A0_1 l0_1.length c0_1) := (blk_cell BK123.out 1).trans rfl
        have hfz8_0 := blk_frozen BK123.out 0
        have hfz8_1 := blk_frozen BK123.out 1
        go_wp2
        repeat (go_quiet (fail); try go_wp2)
        go_meet
        case rel => exact ⟨_, (decide ((l0_1.length : Int) > 200)), (by first | rfl | (simp; done) | (simp [*]; done)), H', ⟨by first | omega | exact Nat.le_refl _⟩, ⟨by (with_reducible repeat (first | refine blk_drewN ?_ _ | refine blk_drew ?_ | refine blk_alloc ?_ _)); exact BK123.out⟩, ⟨by repeat (with_reducible first | exact HB.out | apply pw_below_drewN | apply below_drew1 | refine below_set ?_ GE123.out)⟩⟩
  case rest =>
    clear HC2
    try clear c2
    try clear p2
    try clear c4
    try clear c4b0
    try clear c6
    try clear c6b0
    try clear hcz5_0
    try clear hcz5_1
    try clear hcz7_0
    try clear hcz7_1
    try clear hcz8_0
    try clear hcz8_1
    try clear hfz5_0
    try clear hfz5_1
    try clear hfz7_0
    try clear hfz7_1
    try clear hfz8_0
    try clear hfz8_1
    obtain ⟨kq, x18_1, rfl, HA, HJ1, BK123, HB⟩ := hcut
    cases kq with
    | zero => exact absurd HA.out (by simp [watchmanref21_Is.j0])
    | succ kj1 =>
      have H := HA.out
      clear HA
      simp only [watchmanref21_Is.j0] at H
      by_cases c9 : x18_1 = true
      · subst c9
        have H1 : (some false) = some r := by rw [if_pos rfl] at H; exact H
        clear H
        have H := H1
        clear H1
        obtain rfl := Option.some.inj H
        go_wp2
        repeat (go_quiet (fail); try go_wp2)
        go_ret
        exact ⟨by first | rfl | (simp [errW_none, errW_some] <;> rfl) | (simp [*, errW_none, errW_some] <;> rfl), by repeat (with_reducible first | exact HB.out | apply pw_below_drewN | apply below_drew1 | refine below_set ?_ GE123.out)⟩
      · replace c9 := Bool.eq_false_iff.mpr c9
        subst c9
        have H1 : (watchmanref21_Is.l0 kj1 0 a0_0 l0_1) = some r := by rw [if_neg (show ¬ (false = true) by decide)] at H; exact H
        clear H
        have H := H1
        clear H1
        have H' := Aside0.mk H
        clear H
        go_wp2
        repeat (go_quiet (fail); try go_wp2)
        go_loopg [3] kj1 (fun kq v3 w' => ∃ (x3_2 : Int), v3 = .int .i64 x3_2 ∧ Aside0 (watchmanref21_Is.l0 kq x3_2 a0_0 l0_1 = some r) ∧ Aside0 (kq ≤ kj1) ∧ Aside0 (w'.heap[gb123]? = some (.cells #[.int .i64 a0_0, (.slice A0_1 l0_1.length c0_1)] 24 (0, 0))) ∧ Aside0 (Below w.heap.size w w'))
        case atStart => exact ⟨(0), (by first | rfl | (simp; done) | (simp [*]; done)), H', ⟨Nat.le_refl _⟩, ⟨by (with_reducible repeat (first | refine blk_drewN ?_ _ | refine blk_drew ?_ | refine blk_alloc ?_ _)); exact BK123.out⟩, ⟨by repeat (with_reducible first | exact HB.out | apply pw_below_drewN | apply below_drew1 | refine below_set ?_ GE123.out)⟩⟩
        case round =>
          clear H'
          try clear c2
          try clear p2
          try clear c4
          try clear c4b0
          try clear c6
          try clear c6b0
          try clear c9
          try clear hcz5_0
          try clear hcz5_1
          try clear hcz7_0
          try clear hcz7_1
          try clear hcz8_0
          try clear hcz8_1
          try clear hfz5_0
          try clear hfz5_1
          try clear hfz7_0
          try clear hfz7_1
          try clear hfz8_0
          try clear hfz8_1
          try clear p2
          obtain ⟨x3_2, rfl, HA, HK2, BK123, HB⟩ := hrel
          cases gk with
          | zero => exact absurd HA.out (by simp [watchmanref21_Is.l0])
          | succ k2 =>
            have H := HA.out
            clear HA
            simp only [watchmanref21_Is.l0] at H
            by_cases c10 : x3_2 < (l0_1.length : Int)
            · rw [if_pos c10] at H
              have c10b0 : decide (x3_2 < (l0_1.length : Int)) = true := decide_eq_true c10
              clear c10
              by_cases c11 : 0 ≤ x3_2
              · rw [if_pos c11] at H
                have c11b0 : decide (0 ≤ x3_2) = true := decide_eq_true c11
                clear c11
                have HC12 := Aside0.mk H
                clear H
                have hcz13_0 : wr.cell? ⟨gb123, 0, none⟩ = some (.int .i64 a0_0) := (blk_cell BK123.out 0).trans rfl
                have hcz13_1 : wr.cell? ⟨gb123, 1, none⟩ = some (.slice A0_1 l0_1.length c0_1) := (blk_cell BK123.out 1).trans rfl
                have hfz13_0 := blk_frozen BK123.out 0
                have hfz13_1 := blk_frozen BK123.out 1
                have p124 : 0 ≤ (x3_2 : Int) := of_decide_eq_true (by first | (with_reducible assumption) | assumption)
                have q124 : x3_2 < (l0_1.length : Int) := of_decide_eq_true (by first | (with_reducible assumption) | assumption)
                obtain ⟨ad124, e124, hx124_0, hx124_1, hx124_2, hx124_3⟩ := at_T35 HR0_1.out x3_2 p124 q124
                cases e124
                replace hx124_0 := (HB.out.cell (World.block_lt_of_cell? w _ hx124_0)).trans hx124_0
                replace hx124_1 := (HB.out.cell (World.block_lt_of_cell? w _ hx124_1)).trans hx124_1
                replace hx124_2 := (HB.out.cell (World.block_lt_of_cell? w _ hx124_2)).trans hx124_2
                replace hx124_3 := (HB.out.cell (World.block_lt_of_cell? w _ hx124_3)).trans hx124_3
                replace p124 := eq_true p124
                replace q124 := eq_true q124
                go_upto_region 7 with (first | ((with_reducible refine gate_dst (N := 4) rfl ?_); (try (refine gate_guard (by rfl) ?_; dsimp only)); refine box_event ?hg (N := 4) ?hd (cs := #[.int .i64 0, .int .i64 0, .int .i64 0, .string (⟨#[]⟩ : ByteArray)]) (t := 35) ?hr ?_; (case hd => rfl); (case hg => rfl); (case hr => first | (go_simp; done) | (go_simp; rfl)); intro gb125 hg w14 hbox hb; have BK125 := Aside0.mk (hbox); have GW125 := Aside0.mk ((by rw [hg]; exact (below_size (by repeat (with_reducible first | exact HB.out | apply pw_below_drewN | apply below_drew1 | refine below_set ?_ GE123.out))) : w.heap.size ≤ gb125)); have GE125 := Aside0.mk ((by rw [hg]; exact (below_size (by repeat (with_reducible first | exact HB.out | apply pw_below_drewN | apply below_drew1 | refine below_set ?_ GE123.out))) : w.heap.size ≤ gb125)); replace HB := Aside0.mk (below_step (by repeat (with_reducible first | exact HB.out | apply pw_below_drewN | apply below_drew1 | refine below_set ?_ GE123.out)) hb); have NB123_125 := Aside0.mk ((by rw [hg]; exact Nat.ne_of_lt (blk_lt BK123.out) : gb123 ≠ gb125)); have NB125_123 := Aside0.mk ((by rw [hg]; exact Nat.ne_of_gt (blk_lt BK123.out) : gb125 ≠ gb123)); replace BK123 := bl_ BK123 hb; clear hb hbox hg; have hnb15 := NB125_123.out; have hnc15 := NB123_125.out; have hcz16_0 : w14.cell? ⟨gb125, 0, none⟩ = some (.int .i64 0) := (blk_cell BK125.out 0).trans rfl; have hcz16_1 : w14.cell? ⟨gb125, 1, none⟩ = some (.int .i64 0) := (blk_cell BK125.out 1).trans rfl; have hcz16_2 : w14.cell? ⟨gb125, 2, none⟩ = some (.int .i64 0) := (blk_cell BK125.out 2).trans rfl; have hcz16_3 : w14.cell? ⟨gb125, 3, none⟩ = some (.string (⟨#[]⟩ : ByteArray)) := (blk_cell BK125.out 3).trans rfl; have hfz16_0 := blk_frozen BK125.out 0; have hfz16_1 := blk_frozen BK125.out 1; have hfz16_2 := blk_frozen BK125.out 2; have hfz16_3 := blk_frozen BK125.out 3))
                (try simp only [Act.put, List.setIfInBounds_toArray, List.set_cons_zero, List.set_cons_succ])
                go_cut [82] (fun v82 wc => ∃ (kq : Nat) (x82_11 : Bool), v82 = .bool x82_11 ∧ Aside0 (watchmanref21_Is.j2 kq x3_2 x82_11 a0_0 l0_1 = some r) ∧ Aside0 (kq ≤ k2) ∧ Aside0 (wc.heap[gb123]? = some (.cells #[.int .i64 a0_0, (.slice (some ad124) l0_1.length c0_1)] 24 (0, 0))) ∧ Aside0 (wc.heap[gb125]? = some (.cells #[.int .i64 ((rd_T35 l0_1 x3_2).f0), .int .i64 ((rd_T35 l0_1 x3_2).f1), .int .i64 ((rd_T35 l0_1 x3_2).f2), .string ((rd_T35 l0_1 x3_2).f3)] 35 (0, 0))) ∧ Aside0 (Below w.heap.size w wc))
                case first =>
                  have H := HC12.out
                  clear HC12
                  by_cases c17 : ((rd_T35 l0_1 x3_2).f0) < 0
                  · rw [if_pos c17] at H
                    have c17b0 : decide (((rd_T35 l0_1 x3_2).f0) < 0) = true := decide_eq_true c17
                    clear c17
                    (first | rw [c17b0] | (simp only [i64_w, i32_w]; rw [c17b0]) | skip)
                    have H' := Aside0.mk H
                    clear H
                    have hnb18 := NB125_123.out
                    have hnc18 := NB123_125.out
                    have hcz19_0 : w14.cell? ⟨gb125, 0, none⟩ = some (.int .i64 0) := (blk_cell BK125.out 0).trans rfl
                    have hcz19_1 : w14.cell? ⟨gb125, 1, none⟩ = some (.int .i64 0) := (blk_cell BK125.out 1).trans rfl
                    have hcz19_2 : w14.cell? ⟨gb125, 2, none⟩ = some (.int .i64 0) := (blk_cell BK125.out 2).trans rfl
                    have hcz19_3 : w14.cell? ⟨gb125, 3, none⟩ = some (.string (⟨#[]⟩ : ByteArray)) := (blk_cell BK125.out 3).trans rfl
                    have hfz19_0 := blk_frozen BK125.out 0
                    have hfz19_1 := blk_frozen BK125.out 1
                    have hfz19_2 := blk_frozen BK125.out 2
                    have hfz19_3 := blk_frozen BK125.out 3
                    go_wp2
                    repeat (go_quiet (fail); try go_wp2)
                    go_meet
                    case rel => exact ⟨_, (true), (by first | rfl | (simp; done) | (simp [*]; done)), H', ⟨by have := HJ1.out; have := HK2.out; first | omega | exact Nat.le_refl _⟩, ⟨by (with_reducible repeat (first | refine blk_drewN ?_ _ | refine blk_drew ?_ | refine blk_alloc ?_ _)); refine blk_far ?_ NB123_125.out _; (with_reducible repeat (first | refine blk_drewN ?_ _ | refine blk_drew ?_ | refine blk_alloc ?_ _)); refine blk_far ?_ NB123_125.out _; (with_reducible repeat (first | refine blk_drewN ?_ _ | refine blk_drew ?_ | refine blk_alloc ?_ _)); refine blk_far ?_ NB123_125.out _; (with_reducible repeat (first | refine blk_drewN ?_ _ | refine blk_drew ?_ | refine blk_alloc ?_ _)); refine blk_far ?_ NB123_125.out _; (with_reducible repeat (first | refine blk_drewN ?_ _ | refine blk_drew ?_ | refine blk_alloc ?_ _)); exact BK123.out⟩, ⟨by (with_reducible repeat (first | refine blk_drewN ?_ _ | refine blk_drew ?_ | refine blk_alloc ?_ _)); refine blk_put (cs := #[.int .i64 ((rd_T35 l0_1 x3_2).f0), .int .i64 ((rd_T35 l0_1 x3_2).f1), .int .i64 ((rd_T35 l0_1 x3_2).f2), .string (⟨#[]⟩ : ByteArray)]) ?_ 3 _ rfl; (with_reducible repeat (first | refine blk_drewN ?_ _ | refine blk_drew ?_ | refine blk_alloc ?_ _)); refine blk_put (cs := #[.int .i64 ((rd_T35 l0_1 x3_2).f0), .int .i64 ((rd_T35 l0_1 x3_2).f1), .int .i64 0, .string (⟨#[]⟩ : ByteArray)]) ?_ 2 _ rfl; (with_reducible repeat (first | refine blk_drewN ?_ _ | refine blk_drew ?_ | refine blk_alloc ?_ _)); refine blk_put (cs := #[.int .i64 ((rd_T35 l0_1 x3_2).f0), .int .i64 0, .int .i64 0, .string (⟨#[]⟩ : ByteArray)]) ?_ 1 _ rfl; (with_reducible repeat (first | refine blk_drewN ?_ _ | refine blk_drew ?_ | refine blk_alloc ?_ _)); refine blk_put (cs := #[.int .i64 0, .int .i64 0, .int .i64 0, .string (⟨#[]⟩ : ByteArray)]) ?_ 0 _ rfl; (with_reducible repeat (first | refine blk_drewN ?_ _ | refine blk_drew ?_ | refine blk_alloc ?_ _)); exact BK125.out⟩, ⟨by repeat (with_reducible first | exact HB.out | apply pw_below_drewN | apply below_drew1 | refine below_set ?_ (Aside0.out (by assumption)))⟩⟩
                  · rw [if_neg c17] at H
                    have c17b0 : decide (((rd_T35 l0_1 x3_2).f0) < 0) = false := decide_eq_false c17
                    clear c17
                    (first | rw [c17b0] | (simp only [i64_w, i32_w]; rw [c17b0]) | skip)
                    by_cases c20 : ((rd_T35 l0_1 x3_2).f0) ≥ a0_0
                    · rw [if_pos c20] at H
                      have c20b0 : decide (a0_0 ≤ ((rd_T35 l0_1 x3_2).f0)) = true := decide_eq_true c20
                      clear c20
                      have H' := Aside0.mk H
                      clear H
                      have hnb21 := NB125_123.out
                      have hnc21 := NB123_125.out
                      have hcz22_0 : w14.cell? ⟨gb125, 0, none⟩ = some (.int .i64 0) := (blk_cell BK125.out 0).trans rfl
                      have hcz22_1 : w14.cell? ⟨gb125, 1, none⟩ = some (.int .i64 0) := (blk_cell BK125.out 1).trans rfl
                      have hcz22_2 : w14.cell? ⟨gb125, 2, none⟩ = some (.int .i64 0) := (blk_cell BK125.out 2).trans rfl
                      have hcz22_3 : w14.cell? ⟨gb125, 3, none⟩ = some (.string (⟨#[]⟩ : ByteArray)) := (blk_cell BK125.out 3).trans rfl
                      have hfz22_0 := blk_frozen BK125.out 0
                      have hfz22_1 := blk_frozen BK125.out 1
                      have hfz22_2 := blk_frozen BK125.out 2
                      have hfz22_3 := blk_frozen BK125.out 3
                      have hcz23_0 : w14.cell? ⟨gb123, 0, none⟩ = some (.int .i64 a0_0) := (blk_cell BK123.out 0).trans rfl
                      have hcz23_1 : w14.cell? ⟨gb123, 1, none⟩ = some (.slice (some ad124) l0_1.length c0_1) := (blk_cell BK123.out 1).trans rfl
                      have hfz23_0 := blk_frozen BK123.out 0
                      have hfz23_1 := blk_frozen BK123.out 1
                      go_wp2
                      repeat (go_quiet (fail); try go_wp2)
                      go_meet
                      case rel => exact ⟨_, (true), (by first | rfl | (simp; done) | (simp [*]; done)), H', ⟨by have := HJ1.out; have := HK2.out; first | omega | exact Nat.le_refl _⟩, ⟨by (with_reducible repeat (first | refine blk_drewN ?_ _ | refine blk_drew ?_ | refine blk_alloc ?_ _)); refine blk_far ?_ NB123_125.out _; (with_reducible repeat (first | refine blk_drewN ?_ _ | refine blk_drew ?_ | refine blk_alloc ?_ _)); refine blk_far ?_ NB123_125.out _; (with_reducible repeat (first | refine blk_drewN ?_ _ | refine blk_drew ?_ | refine blk_alloc ?_ _)); refine blk_far ?_ NB123_125.out _; (with_reducible repeat (first | refine blk_drewN ?_ _ | refine blk_drew ?_ | refine blk_alloc ?_ _)); refine blk_far ?_ NB123_125.out _; (with_reducible repeat (first | refine blk_drewN ?_ _ | refine blk_drew ?_ | refine blk_alloc ?_ _)); exact BK123.out⟩, ⟨by (with_reducible repeat (first | refine blk_drewN ?_ _ | refine blk_drew ?_ | refine blk_alloc ?_ _)); refine blk_put (cs := #[.int .i64 ((rd_T35 l0_1 x3_2).f0), .int .i64 ((rd_T35 l0_1 x3_2).f1), .int .i64 ((rd_T35 l0_1 x3_2).f2), .string (⟨#[]⟩ : ByteArray)]) ?_ 3 _ rfl; (with_reducible repeat (first | refine blk_drewN ?_ _ | refine blk_drew ?_ | refine blk_alloc ?_ _)); refine blk_put (cs := #[.int .i64 ((rd_T35 l0_1 x3_2).f0), .int .i64 ((rd_T35 l0_1 x3_2).f1), .int .i64 0, .string (⟨#[]⟩ : ByteArray)]) ?_ 2 _ rfl; (with_reducible repeat (first | refine blk_drewN ?_ _ | refine blk_drew ?_ | refine blk_alloc ?_ _)); refine blk_put (cs := #[.int .i64 ((rd_T35 l0_1 x3_2).f0), .int .i64 0, .int .i64 0, .string (⟨#[]⟩ : ByteArray)]) ?_ 1 _ rfl; (with_reducible repeat (first | refine blk_drewN ?_ _ | refine blk_drew ?_ | refine blk_alloc ?_ _)); refine blk_put (cs := #[.int .i64 0, .int .i64 0, .int .i64 0, .string (⟨#[]⟩ : ByteArray)]) ?_ 0 _ rfl; (with_reducible repeat (first | refine blk_drewN ?_ _ | refine blk_drew ?_ | refine blk_alloc ?_ _)); exact BK125.out⟩, ⟨by repeat (with_reducible first | exact HB.out | apply pw_below_drewN | apply below_drew1 | refine below_set ?_ (Aside0.out (by assumption)))⟩⟩
                    · rw [if_neg c20] at H
                      have c20b0 : decide (a0_0 ≤ ((rd_T35 l0_1 x3_2).f0)) = false := decide_eq_false c20
                      clear c20
                      by_cases c24 : x3_2 > 0
                      · rw [if_pos c24] at H
                        have c24b0 : decide (0 < x3_2) = true := decide_eq_true c24
                        clear c24
                        obtain ⟨ji25, hji25⟩ : ∃ j_ : Int, (wrap64 (x3_2 - 1)) = j_ := ⟨_, rfl⟩
                        replace H : (if 0 ≤ (ji25) then (if (ji25) < (l0_1.length : Int) then (if ((rd_T35 l0_1 (ji25)).f0) ≥ ((rd_T35 l0_1 x3_2).f0) then (watchmanref21_Is.j2 k2 x3_2 true a0_0 l0_1) else (if ((rd_T35 l0_1 x3_2).f1) < 0 then (watchmanref21_Is.j2 k2 x3_2 true a0_0 l0_1) else (if ((rd_T35 l0_1 x3_2).f1) > 20 then (watchmanref21_Is.j2 k2 x3_2 true a0_0 l0_1) else (if ((rd_T35 l0_1 x3_2).f2) < 0 then (watchmanref21_Is.j2 k2 x3_2 true a0_0 l0_1) else (if ((rd_T35 l0_1 x3_2).f2) > 20 then (watchmanref21_Is.j2 k2 x3_2 true a0_0 l0_1) else (watchmanref21_Is.j2 k2 x3_2 (decide ((((rd_T35 l0_1 x3_2).f3).size : Int) > 2000)) a0_0 l0_1)))))) else (none)) else (none)) = some r := by first | (rw [hji25] at H; exact H) | (simp only [hji25] at H ⊢; exact H)
                        have hji25w : (IntKind.i64.wrap (x3_2 - 1)) = ji25 := (i64_w _).trans hji25
                        by_cases c26 : 0 ≤ (ji25)
                        · rw [if_pos c26] at H
                          have c26b0 : decide (0 ≤ (ji25)) = true := decide_eq_true c26
                          clear c26
                          by_cases c27 : (ji25) < (l0_1.length : Int)
                          · rw [if_pos c27] at H
                            have c27b0 : decide ((ji25) < (l0_1.length : Int)) = true := decide_eq_true c27
                            clear c27
                            by_cases c28 : ((rd_T35 l0_1 (ji25)).f0) ≥ ((rd_T35 l0_1 x3_2).f0)
                            · rw [if_pos c28] at H
                              have c28b0 : decide (((rd_T35 l0_1 x3_2).f0) ≤ ((rd_T35 l0_1 (ji25)).f0)) = true := decide_eq_true c28
                              clear c28
                              have H' := Aside0.mk H
                              clear H
                              have hnb29 := NB125_123.out
                              have hnc29 := NB123_125.out
                              have hcz30_0 : w14.cell? ⟨gb125, 0, none⟩ = some (.int .i64 0) := (blk_cell BK125.out 0).trans rfl
                              have hcz30_1 : w14.cell? ⟨gb125, 1, none⟩ = some (.int .i64 0) := (blk_cell BK125.out 1).trans rfl
                              have hcz30_2 : w14.cell? ⟨gb125, 2, none⟩ = some (.int .i64 0) := (blk_cell BK125.out 2).trans rfl
                              have hcz30_3 : w14.cell? ⟨gb125, 3, none⟩ = some (.string (⟨#[]⟩ : ByteArray)) := (blk_cell BK125.out 3).trans rfl
                              have hfz30_0 := blk_frozen BK125.out 0
                              have hfz30_1 := blk_frozen BK125.out 1
                              have hfz30_2 := blk_frozen BK125.out 2
                              have hfz30_3 := blk_frozen BK125.out 3
                              have hcz31_0 : w14.cell? ⟨gb123, 0, none⟩ = some (.int .i64 a0_0) := (blk_cell BK123.out 0).trans rfl
                              have hcz31_1 : w14.cell? ⟨gb123, 1, none⟩ = some (.slice (some ad124) l0_1.length c0_1) := (blk_cell BK123.out 1).trans rfl
                              have hfz31_0 := blk_frozen BK123.out 0
                              have hfz31_1 := blk_frozen BK123.out 1
                              have p126 : 0 ≤ ((ji25) : Int) := of_decide_eq_true (by first | (with_reducible assumption) | assumption)
                              have q126 : (ji25) < (l0_1.length : Int) := of_decide_eq_true (by first | (with_reducible assumption) | assumption)
                              obtain ⟨ad126, e126, hx126_0, hx126_1, hx126_2, hx126_3⟩ := at_T35 HR0_1.out (ji25) p126 q126
                              obtain rfl : ad124 = ad126 := (by injection e126)
                              have hn126_0 : ad124.block ≠ gb125 := Nat.ne_of_lt (Nat.lt_of_lt_of_le (by have := World.block_lt_of_cell? _ _ hx126_0; first | rwa [add_block] at this | exact this) GW125.out)
                              have hn126_1 : ad124.block ≠ gb125 := Nat.ne_of_lt (Nat.lt_of_lt_of_le (by have := World.block_lt_of_cell? _ _ hx126_0; first | rwa [add_block] at this | exact this) GW125.out)
                              have hn126_2 : ad124.block ≠ gb125 := Nat.ne_of_lt (Nat.lt_of_lt_of_le (by have := World.block_lt_of_cell? _ _ hx126_0; first | rwa [add_block] at this | exact this) GW125.out)
                              have hn126_3 : ad124.block ≠ gb125 := Nat.ne_of_lt (Nat.lt_of_lt_of_le (by have := World.block_lt_of_cell? _ _ hx126_0; first | rwa [add_block] at this | exact this) GW125.out)
                              replace hx126_0 := (HB.out.cell (World.block_lt_of_cell? w _ hx126_0)).trans hx126_0
                              replace hx126_1 := (HB.out.cell (World.block_lt_of_cell? w _ hx126_1)).trans hx126_1
                              replace hx126_2 := (HB.out.cell (World.block_lt_of_cell? w _ hx126_2)).trans hx126_2
                              replace hx126_3 := (HB.out.cell (World.block_lt_of_cell? w _ hx126_3)).trans hx126_3
                              replace hx126_0 := (cell_far (p := ⟨gb125, 0, none⟩) (by first | (rw [add_block]; exact hn126_0) | (show (Addr.add _ _).block ≠ _; rw [add_block]; exact hn126_0) | exact hn126_0) (.int .i64 ((rd_T35 l0_1 x3_2).f0))).trans hx126_0
                              replace hx126_1 := (cell_far (p := ⟨gb125, 0, none⟩) (by first | (rw [add_block]; exact hn126_0) | (show (Addr.add _ _).block ≠ _; rw [add_block]; exact hn126_0) | exact hn126_0) (.int .i64 ((rd_T35 l0_1 x3_2).f0))).trans hx126_1
                              replace hx126_2 := (cell_far (p := ⟨gb125, 0, none⟩) (by first | (rw [add_block]; exact hn126_0) | (show (Addr.add _ _).block ≠ _; rw [add_block]; exact hn126_0) | exact hn126_0) (.int .i64 ((rd_T35 l0_1 x3_2).f0))).trans hx126_2
                              replace hx126_3 := (cell_far (p := ⟨gb125, 0, none⟩) (by first | (rw [add_block]; exact hn126_0) | (show (Addr.add _ _).block ≠ _; rw [add_block]; exact hn126_0) | exact hn126_0) (.int .i64 ((rd_T35 l0_1 x3_2).f0))).trans hx126_3
                              replace hx126_0 := (cell_far (p := ⟨gb125, 1, none⟩) (by first | (rw [add_block]; exact hn126_1) | (show (Addr.add _ _).block ≠ _; rw [add_block]; exact hn126_1) | exact hn126_1) (.int .i64 ((rd_T35 l0_1 x3_2).f1))).trans hx126_0
                              replace hx126_1 := (cell_far (p := ⟨gb125, 1, none⟩) (by first | (rw [add_block]; exact hn126_1) | (show (Addr.add _ _).block ≠ _; rw [add_block]; exact hn126_1) | exact hn126_1) (.int .i64 ((rd_T35 l0_1 x3_2).f1))).trans hx126_1
                              replace hx126_2 := (cell_far (p := ⟨gb125, 1, none⟩) (by first | (rw [add_block]; exact hn126_1) | (show (Addr.add _ _).block ≠ _; rw [add_block]; exact hn126_1) | exact hn126_1) (.int .i64 ((rd_T35 l0_1 x3_2).f1))).trans hx126_2
                              replace hx126_3 := (cell_far (p := ⟨gb125, 1, none⟩) (by first | (rw [add_block]; exact hn126_1) | (show (Addr.add _ _).block ≠ _; rw [add_block]; exact hn126_1) | exact hn126_1) (.int .i64 ((rd_T35 l0_1 x3_2).f1))).trans hx126_3
                              replace hx126_0 := (cell_far (p := ⟨gb125, 2, none⟩) (by first | (rw [add_block]; exact hn126_2) | (show (Addr.add _ _).block ≠ _; rw [add_block]; exact hn126_2) | exact hn126_2) (.int .i64 ((rd_T35 l0_1 x3_2).f2))).trans hx126_0
                              replace hx126_1 := (cell_far (p := ⟨gb125, 2, none⟩) (by first | (rw [add_block]; exact hn126_2) | (show (Addr.add _ _).block ≠ _; rw [add_block]; exact hn126_2) | exact hn126_2) (.int .i64 ((rd_T35 l0_1 x3_2).f2))).trans hx126_1
                              replace hx126_2 := (cell_far (p := ⟨gb125, 2, none⟩) (by first | (rw [add_block]; exact hn126_2) | (show (Addr.add _ _).block ≠ _; rw [add_block]; exact hn126_2) | exact hn126_2) (.int .i64 ((rd_T35 l0_1 x3_2).f2))).trans hx126_2
                              replace hx126_3 := (cell_far (p := ⟨gb125, 2, none⟩) (by first | (rw [add_block]; exact hn126_2) | (show (Addr.add _ _).block ≠ _; rw [add_block]; exact hn126_2) | exact hn126_2) (.int .i64 ((rd_T35 l0_1 x3_2).f2))).trans hx126_3
                              replace hx126_0 := (cell_far (p := ⟨gb125, 3, none⟩) (by first | (rw [add_block]; exact hn126_3) | (show (Addr.add _ _).block ≠ _; rw [add_block]; exact hn126_3) | exact hn126_3) (.string ((rd_T35 l0_1 x3_2).f3))).trans hx126_0
                              replace hx126_1 := (cell_far (p := ⟨gb125, 3, none⟩) (by first | (rw [add_block]; exact hn126_3) | (show (Addr.add _ _).block ≠ _; rw [add_block]; exact hn126_3) | exact hn126_3) (.string ((rd_T35 l0_1 x3_2).f3))).trans hx126_1
                              replace hx126_2 := (cell_far (p := ⟨gb125, 3, none⟩) (by first | (rw [add_block]; exact hn126_3) | (show (Addr.add _ _).block ≠ _; rw [add_block]; exact hn126_3) | exact hn126_3) (.string ((rd_T35 l0_1 x3_2).f3))).trans hx126_2
                              replace hx126_3 := (cell_far (p := ⟨gb125, 3, none⟩) (by first | (rw [add_block]; exact hn126_3) | (show (Addr.add _ _).block ≠ _; rw [add_block]; exact hn126_3) | exact hn126_3) (.string ((rd_T35 l0_1 x3_2).f3))).trans hx126_3
                              (try have hy126_0 := fun (n_ : Nat) => (show ((((((w14.drewN n_).setCell ⟨gb125, 0, none⟩ (.int .i64 ((rd_T35 l0_1 x3_2).f0))).setCell ⟨gb125, 1, none⟩ (.int .i64 ((rd_T35 l0_1 x3_2).f1))).setCell ⟨gb125, 2, none⟩ (.int .i64 ((rd_T35 l0_1 x3_2).f2))).setCell ⟨gb125, 3, none⟩ (.string ((rd_T35 l0_1 x3_2).f3)))).cell? _ = some _ from hx126_0))
                              (try have hy126_1 := fun (n_ : Nat) => (show ((((((w14.drewN n_).setCell ⟨gb125, 0, none⟩ (.int .i64 ((rd_T35 l0_1 x3_2).f0))).setCell ⟨gb125, 1, none⟩ (.int .i64 ((rd_T35 l0_1 x3_2).f1))).setCell ⟨gb125, 2, none⟩ (.int .i64 ((rd_T35 l0_1 x3_2).f2))).setCell ⟨gb125, 3, none⟩ (.string ((rd_T35 l0_1 x3_2).f3)))).cell? _ = some _ from hx126_1))
                              (try have hy126_2 := fun (n_ : Nat) => (show ((((((w14.drewN n_).setCell ⟨gb125, 0, none⟩ (.int .i64 ((rd_T35 l0_1 x3_2).f0))).setCell ⟨gb125, 1, none⟩ (.int .i64 ((rd_T35 l0_1 x3_2).f1))).setCell ⟨gb125, 2, none⟩ (.int .i64 ((rd_T35 l0_1 x3_2).f2))).setCell ⟨gb125, 3, none⟩ (.string ((rd_T35 l0_1 x3_2).f3)))).cell? _ = some _ from hx126_2))
                              (try have hy126_3 := fun (n_ : Nat) => (show ((((((w14.drewN n_).setCell ⟨gb125, 0, none⟩ (.int .i64 ((rd_T35 l0_1 x3_2).f0))).setCell ⟨gb125, 1, none⟩ (.int .i64 ((rd_T35 l0_1 x3_2).f1))).setCell ⟨gb125, 2, none⟩ (.int .i64 ((rd_T35 l0_1 x3_2).f2))).setCell ⟨gb125, 3, none⟩ (.string ((rd_T35 l0_1 x3_2).f3)))).cell? _ = some _ from hx126_3))
                              clear hn126_0
                              clear hn126_1
                              clear hn126_2
                              clear hn126_3
                              replace p126 := eq_true p126
                              replace q126 := eq_true q126
                              go_wp2
                              repeat (go_quiet (fail); try go_wp2)
                              go_meet
                              case rel => exact ⟨_, (true), (by first | rfl | (simp; done) | (simp [*]; done)), H', ⟨by have := HJ1.out; have := HK2.out; first | omega | exact Nat.le_refl _⟩, ⟨by (with_reducible repeat (first | refine blk_drewN ?_ _ | refine blk_drew ?_ | refine blk_alloc ?_ _)); refine blk_far ?_ NB123_125.out _; (with_reducible repeat (first | refine blk_drewN ?_ _ | refine blk_drew ?_ | refine blk_alloc ?_ _)); refine blk_far ?_ NB123_125.out _; (with_reducible repeat (first | refine blk_drewN ?_ _ | refine blk_drew ?_ | refine blk_alloc ?_ _)); refine blk_far ?_ NB123_125.out _; (with_reducible repeat (first | refine blk_drewN ?_ _ | refine blk_drew ?_ | refine blk_alloc ?_ _)); refine blk_far ?_ NB123_125.out _; (with_reducible repeat (first | refine blk_drewN ?_ _ | refine blk_drew ?_ | refine blk_alloc ?_ _)); exact BK123.out⟩, ⟨by (with_reducible repeat (first | refine blk_drewN ?_ _ | refine blk_drew ?_ | refine blk_alloc ?_ _)); refine blk_put (cs := #[.int .i64 ((rd_T35 l0_1 x3_2).f0), .int .i64 ((rd_T35 l0_1 x3_2).f1), .int .i64 ((rd_T35 l0_1 x3_2).f2), .string (⟨#[]⟩ : ByteArray)]) ?_ 3 _ rfl; (with_reducible repeat (first | refine blk_drewN ?_ _ | refine blk_drew ?_ | refine blk_alloc ?_ _)); refine blk_put (cs := #[.int .i64 ((rd_T35 l0_1 x3_2).f0), .int .i64 ((rd_T35 l0_1 x3_2).f1), .int .i64 0, .string (⟨#[]⟩ : ByteArray)]) ?_ 2 _ rfl; (with_reducible repeat (first | refine blk_drewN ?_ _ | refine blk_drew ?_ | refine blk_alloc ?_ _)); refine blk_put (cs := #[.int .i64 ((rd_T35 l0_1 x3_2).f0), .int .i64 0, .int .i64 0, .string (⟨#[]⟩ : ByteArray)]) ?_ 1 _ rfl; (with_reducible repeat (first | refine blk_drewN ?_ _ | refine blk_drew ?_ | refine blk_alloc ?_ _)); refine blk_put (cs := #[.int .i64 0, .int .i64 0, .int .i64 0, .string (⟨#[]⟩ : ByteArray)]) ?_ 0 _ rfl; (with_reducible repeat (first | refine blk_drewN ?_ _ | refine blk_drew ?_ | refine blk_alloc ?_ _)); exact BK125.out⟩, ⟨by repeat (with_reducible first | exact HB.out | apply pw_below_drewN | apply below_drew1 | refine below_set ?_ (Aside0.out (by assumption)))⟩⟩
                            · rw [if_neg c28] at H
                              have c28b0 : decide (((rd_T35 l0_1 x3_2).f0) ≤ ((rd_T35 l0_1 (ji25)).f0)) = false := decide_eq_false c28
                              clear c28
                              by_cases c32 : ((rd_T35 l0_1 x3_2).f1) < 0
                              · rw [if_pos c32] at H
                                have c32b0 : decide (((rd_T35 l0_1 x3_2).f1) < 0) = true := decide_eq_true c32
                                clear c32
                                have H' := Aside0.mk H
                                clear H
                                have hnb33 := NB125_123.out
                                have hnc33 := NB123_125.out
                                have hcz34_0 : w14.cell? ⟨gb125, 0, none⟩ = some (.int .i64 0) := (blk_cell BK125.out 0).trans rfl
                                have hcz34_1 : w14.cell? ⟨gb125, 1, none⟩ = some (.int .i64 0) := (blk_cell BK125.out 1).trans rfl
                                have hcz34_2 : w14.cell? ⟨gb125, 2, none⟩ = some (.int .i64 0) := (blk_cell BK125.out 2).trans rfl
                                have hcz34_3 : w14.cell? ⟨gb125, 3, none⟩ = some (.string (⟨#[]⟩ : ByteArray)) := (blk_cell BK125.out 3).trans rfl
                                have hfz34_0 := blk_frozen BK125.out 0
                                have hfz34_1 := blk_frozen BK125.out 1
                                have hfz34_2 := blk_frozen BK125.out 2
                                have hfz34_3 := blk_frozen BK125.out 3
                                have hcz35_0 : w14.cell? ⟨gb123, 0, none⟩ = some (.int .i64 a0_0) := (blk_cell BK123.out 0).trans rfl
                                have hcz35_1 : w14.cell? ⟨gb123, 1, none⟩ = some (.slice (some ad124) l0_1.length c0_1) := (blk_cell BK123.out 1).trans rfl
                                have hfz35_0 := blk_frozen BK123.out 0
                                have hfz35_1 := blk_frozen BK123.out 1
                                have p126 : 0 ≤ ((ji25) : Int) := of_decide_eq_true (by first | (with_reducible assumption) | assumption)
                                have q126 : (ji25) < (l0_1.length : Int) := of_decide_eq_true (by first | (with_reducible assumption) | assumption)
                                obtain ⟨ad126, e126, hx126_0, hx126_1, hx126_2, hx126_3⟩ := at_T35 HR0_1.out (ji25) p126 q126
                                obtain rfl : ad124 = ad126 := (by injection e126)
                                have hn126_0 : ad124.block ≠ gb125 := Nat.ne_of_lt (Nat.lt_of_lt_of_le (by have := World.block_lt_of_cell? _ _ hx126_0; first | rwa [add_block] at this | exact this) GW125.out)
                                have hn126_1 : ad124.block ≠ gb125 := Nat.ne_of_lt (Nat.lt_of_lt_of_le (by have := World.block_lt_of_cell? _ _ hx126_0; first | rwa [add_block] at this | exact this) GW125.out)
                                have hn126_2 : ad124.block ≠ gb125 := Nat.ne_of_lt (Nat.lt_of_lt_of_le (by have := World.block_lt_of_cell? _ _ hx126_0; first | rwa [add_block] at this | exact this) GW125.out)
                                have hn126_3 : ad124.block ≠ gb125 := Nat.ne_of_lt (Nat.lt_of_lt_of_le (by have := World.block_lt_of_cell? _ _ hx126_0; first | rwa [add_block] at this | exact this) GW125.out)
                                replace hx126_0 := (HB.out.cell (World.block_lt_of_cell? w _ hx126_0)).trans hx126_0
                                replace hx126_1 := (HB.out.cell (World.block_lt_of_cell? w _ hx126_1)).trans hx126_1
                                replace hx126_2 := (HB.out.cell (World.block_lt_of_cell? w _ hx126_2)).trans hx126_2
                                replace hx126_3 := (HB.out.cell (World.block_lt_of_cell? w _ hx126_3)).trans hx126_3
                                replace hx126_0 := (cell_far (p := ⟨gb125, 0, none⟩) (by first | (rw [add_block]; exact hn126_0) | (show (Addr.add _ _).block ≠ _; rw [add_block]; exact hn126_0) | exact hn126_0) (.int .i64 ((rd_T35 l0_1 x3_2).f0))).trans hx126_0
                                replace hx126_1 := (cell_far (p := ⟨gb125, 0, none⟩) (by first | (rw [add_block]; exact hn126_0) | (show (Addr.add _ _).block ≠ _; rw [add_block]; exact hn126_0) | exact hn126_0) (.int .i64 ((rd_T35 l0_1 x3_2).f0))).trans hx126_1
                                replace hx126_2 := (cell_far (p := ⟨gb125, 0, none⟩) (by first | (rw [add_block]; exact hn126_0) | (show (Addr.add _ _).block ≠ _; rw [add_block]; exact hn126_0) | exact hn126_0) (.int .i64 ((rd_T35 l0_1 x3_2).f0))).trans hx126_2
                                replace hx126_3 := (cell_far (p := ⟨gb125, 0, none⟩) (by first | (rw [add_block]; exact hn126_0) | (show (Addr.add _ _).block ≠ _; rw [add_block]; exact hn126_0) | exact hn126_0) (.int .i64 ((rd_T35 l0_1 x3_2).f0))).trans hx126_3
                                replace hx126_0 := (cell_far (p := ⟨gb125, 1, none⟩) (by first | (rw [add_block]; exact hn126_1) | (show (Addr.add _ _).block ≠ _; rw [add_block]; exact hn126_1) | exact hn126_1) (.int .i64 ((rd_T35 l0_1 x3_2).f1))).trans hx126_0
                                replace hx126_1 := (cell_far (p := ⟨gb125, 1, none⟩) (by first | (rw [add_block]; exact hn126_1) | (show (Addr.add _ _).block ≠ _; rw [add_block]; exact hn126_1) | exact hn126_1) (.int .i64 ((rd_T35 l0_1 x3_2).f1))).trans hx126_1
                                replace hx126_2 := (cell_far (p := ⟨gb125, 1, none⟩) (by first | (rw [add_block]; exact hn126_1) | (show (Addr.add _ _).block ≠ _; rw [add_block]; exact hn126_1) | exact hn126_1) (.int .i64 ((rd_T35 l0_1 x3_2).f1))).trans hx126_2
                                replace hx126_3 := (cell_far (p := ⟨gb125, 1, none⟩) (by first | (rw [add_block]; exact hn126_1) | (show (Addr.add _ _).block ≠ _; rw [add_block]; exact hn126_1) | exact hn126_1) (.int .i64 ((rd_T35 l0_1 x3_2).f1))).trans hx126_3
                                replace hx126_0 := (cell_far (p := ⟨gb125, 2, none⟩) (by first | (rw [add_block]; exact hn126_2) | (show (Addr.add _ _).block ≠ _; rw [add_block]; exact hn126_2) | exact hn126_2) (.int .i64 ((rd_T35 l0_1 x3_2).f2))).trans hx126_0
                                replace hx126_1 := (cell_far (p := ⟨gb125, 2, none⟩) (by first | (rw [add_block]; exact hn126_2) | (show (Addr.add _ _).block ≠ _; rw [add_block]; exact hn126_2) | exact hn126_2) (.int .i64 ((rd_T35 l0_1 x3_2).f2))).trans hx126_1
                                replace hx126_2 := (cell_far (p := ⟨gb125, 2, none⟩) (by first | (rw [add_block]; exact hn126_2) | (show (Addr.add _ _).block ≠ _; rw [add_block]; exact hn126_2) | exact hn126_2) (.int .i64 ((rd_T35 l0_1 x3_2).f2))).trans hx126_2
                                replace hx126_3 := (cell_far (p := ⟨gb125, 2, none⟩) (by first | (rw [add_block]; exact hn126_2) | (show (Addr.add _ _).block ≠ _; rw [add_block]; exact hn126_2) | exact hn126_2) (.int .i64 ((rd_T35 l0_1 x3_2).f2))).trans hx126_3
                                replace hx126_0 := (cell_far (p := ⟨gb125, 3, none⟩) (by first | (rw [add_block]; exact hn126_3) | (show (Addr.add _ _).block ≠ _; rw [add_block]; exact hn126_3) | exact hn126_3) (.string ((rd_T35 l0_1 x3_2).f3))).trans hx126_0
                                replace hx126_1 := (cell_far (p := ⟨gb125, 3, none⟩) (by first | (rw [add_block]; exact hn126_3) | (show (Addr.add _ _).block ≠ _; rw [add_block]; exact hn126_3) | exact hn126_3) (.string ((rd_T35 l0_1 x3_2).f3))).trans hx126_1
                                replace hx126_2 := (cell_far (p := ⟨gb125, 3, none⟩) (by first | (rw [add_block]; exact hn126_3) | (show (Addr.add _ _).block ≠ _; rw [add_block]; exact hn126_3) | exact hn126_3) (.string ((rd_T35 l0_1 x3_2).f3))).trans hx126_2
                                replace hx126_3 := (cell_far (p := ⟨gb125, 3, none⟩) (by first | (rw [add_block]; exact hn126_3) | (show (Addr.add _ _).block ≠ _; rw [add_block]; exact hn126_3) | exact hn126_3) (.string ((rd_T35 l0_1 x3_2).f3))).trans hx126_3
                                (try have hy126_0 := fun (n_ : Nat) => (show ((((((w14.drewN n_).setCell ⟨gb125, 0, none⟩ (.int .i64 ((rd_T35 l0_1 x3_2).f0))).setCell ⟨gb125, 1, none⟩ (.int .i64 ((rd_T35 l0_1 x3_2).f1))).setCell ⟨gb125, 2, none⟩ (.int .i64 ((rd_T35 l0_1 x3_2).f2))).setCell ⟨gb125, 3, none⟩ (.string ((rd_T35 l0_1 x3_2).f3)))).cell? _ = some _ from hx126_0))
                                (try have hy126_1 := fun (n_ : Nat) => (show ((((((w14.drewN n_).setCell ⟨gb125, 0, none⟩ (.int .i64 ((rd_T35 l0_1 x3_2).f0))).setCell ⟨gb125, 1, none⟩ (.int .i64 ((rd_T35 l0_1 x3_2).f1))).setCell ⟨gb125, 2, none⟩ (.int .i64 ((rd_T35 l0_1 x3_2).f2))).setCell ⟨gb125, 3, none⟩ (.string ((rd_T35 l0_1 x3_2).f3)))).cell? _ = some _ from hx126_1))
                                (try have hy126_2 := fun (n_ : Nat) => (show ((((((w14.drewN n_).setCell ⟨gb125, 0, none⟩ (.int .i64 ((rd_T35 l0_1 x3_2).f0))).setCell ⟨gb125, 1, none⟩ (.int .i64 ((rd_T35 l0_1 x3_2).f1))).setCell ⟨gb125, 2, none⟩ (.int .i64 ((rd_T35 l0_1 x3_2).f2))).setCell ⟨gb125, 3, none⟩ (.string ((rd_T35 l0_1 x3_2).f3)))).cell? _ = some _ from hx126_2))
                                (try have hy126_3 := fun (n_ : Nat) => (show ((((((w14.drewN n_).setCell ⟨gb125, 0, none⟩ (.int .i64 ((rd_T35 l0_1 x3_2).f0))).setCell ⟨gb125, 1, none⟩ (.int .i64 ((rd_T35 l0_1 x3_2).f1))).setCell ⟨gb125, 2, none⟩ (.int .i64 ((rd_T35 l0_1 x3_2).f2))).setCell ⟨gb125, 3, none⟩ (.string ((rd_T35 l0_1 x3_2).f3)))).cell? _ = some _ from hx126_3))
                                clear hn126_0
                                clear hn126_1
                                clear hn126_2
                                clear hn126_3
                                replace p126 := eq_true p126
                                replace q126 := eq_true q126
                                go_wp2
                                repeat (go_quiet (fail); try go_wp2)
                                go_meet
                                case rel => exact ⟨_, (true), (by first | rfl | (simp; done) | (simp [*]; done)), H', ⟨by have := HJ1.out; have := HK2.out; first | omega | exact Nat.le_refl _⟩, ⟨by (with_reducible repeat (first | refine blk_drewN ?_ _ | refine blk_drew ?_ | refine blk_alloc ?_ _)); refine blk_far ?_ NB123_125.out _; (with_reducible repeat (first | refine blk_drewN ?_ _ | refine blk_drew ?_ | refine blk_alloc ?_ _)); refine blk_far ?_ NB123_125.out _; (with_reducible repeat (first | refine blk_drewN ?_ _ | refine blk_drew ?_ | refine blk_alloc ?_ _)); refine blk_far ?_ NB123_125.out _; (with_reducible repeat (first | refine blk_drewN ?_ _ | refine blk_drew ?_ | refine blk_alloc ?_ _)); refine blk_far ?_ NB123_125.out _; (with_reducible repeat (first | refine blk_drewN ?_ _ | refine blk_drew ?_ | refine blk_alloc ?_ _)); exact BK123.out⟩, ⟨by (with_reducible repeat (first | refine blk_drewN ?_ _ | refine blk_drew ?_ | refine blk_alloc ?_ _)); refine blk_put (cs := #[.int .i64 ((rd_T35 l0_1 x3_2).f0), .int .i64 ((rd_T35 l0_1 x3_2).f1), .int .i64 ((rd_T35 l0_1 x3_2).f2), .string (⟨#[]⟩ : ByteArray)]) ?_ 3 _ rfl; (with_reducible repeat (first | refine blk_drewN ?_ _ | refine blk_drew ?_ | refine blk_alloc ?_ _)); refine blk_put (cs := #[.int .i64 ((rd_T35 l0_1 x3_2).f0), .int .i64 ((rd_T35 l0_1 x3_2).f1), .int .i64 0, .string (⟨#[]⟩ : ByteArray)]) ?_ 2 _ rfl; (with_reducible repeat (first | refine blk_drewN ?_ _ | refine blk_drew ?_ | refine blk_alloc ?_ _)); refine blk_put (cs := #[.int .i64 ((rd_T35 l0_1 x3_2).f0), .int .i64 0, .int .i64 0, .string (⟨#[]⟩ : ByteArray)]) ?_ 1 _ rfl; (with_reducible repeat (first | refine blk_drewN ?_ _ | refine blk_drew ?_ | refine blk_alloc ?_ _)); refine blk_put (cs := #[.int .i64 0, .int .i64 0, .int .i64 0, .string (⟨#[]⟩ : ByteArray)]) ?_ 0 _ rfl; (with_reducible repeat (first | refine blk_drewN ?_ _ | refine blk_drew ?_ | refine blk_alloc ?_ _)); exact BK125.out⟩, ⟨by repeat (with_reducible first | exact HB.out | apply pw_below_drewN | apply below_drew1 | refine below_set ?_ (Aside0.out (by assumption)))⟩⟩
                              · rw [if_neg c32] at H
                                have c32b0 : decide (((rd_T35 l0_1 x3_2).f1) < 0) = false := decide_eq_false c32
                                clear c32
                                by_cases c36 : ((rd_T35 l0_1 x3_2).f1) > 20
                                · rw [if_pos c36] at H
                                  have c36b0 : decide (20 < ((rd_T35 l0_1 x3_2).f1)) = true := decide_eq_true c36
                                  clear c36
                                  have H' := Aside0.mk H
                                  clear H
                                  have hnb37 := NB125_123.out
                                  have hnc37 := NB123_125.out
                                  have hcz38_0 : w14.cell? ⟨gb125, 0, none⟩ = some (.int .i64 0) := (blk_cell BK125.out 0).trans rfl
                                  have hcz38_1 : w14.cell? ⟨gb125, 1, none⟩ = some (.int .i64 0) := (blk_cell BK125.out 1).trans rfl
                                  have hcz38_2 : w14.cell? ⟨gb125, 2, none⟩ = some (.int .i64 0) := (blk_cell BK125.out 2).trans rfl
                                  have hcz38_3 : w14.cell? ⟨gb125, 3, none⟩ = some (.string (⟨#[]⟩ : ByteArray)) := (blk_cell BK125.out 3).trans rfl
                                  have hfz38_0 := blk_frozen BK125.out 0
                                  have hfz38_1 := blk_frozen BK125.out 1
                                  have hfz38_2 := blk_frozen BK125.out 2
                                  have hfz38_3 := blk_frozen BK125.out 3
                                  have hcz39_0 : w14.cell? ⟨gb123, 0, none⟩ = some (.int .i64 a0_0) := (blk_cell BK123.out 0).trans rfl
                                  have hcz39_1 : w14.cell? ⟨gb123, 1, none⟩ = some (.slice (some ad124) l0_1.length c0_1) := (blk_cell BK123.out 1).trans rfl
                                  have hfz39_0 := blk_frozen BK123.out 0
                                  have hfz39_1 := blk_frozen BK123.out 1
                                  have p126 : 0 ≤ ((ji25) : Int) := of_decide_eq_true (by first | (with_reducible assumption) | assumption)
                                  have q126 : (ji25) < (l0_1.length : Int) := of_decide_eq_true (by first | (with_reducible assumption) | assumption)
                                  obtain ⟨ad126, e126, hx126_0, hx126_1, hx126_2, hx126_3⟩ := at_T35 HR0_1.out (ji25) p126 q126
                                  obtain rfl : ad124 = ad126 := (by injection e126)
                                  have hn126_0 : ad124.block ≠ gb125 := Nat.ne_of_lt (Nat.lt_of_lt_of_le (by have := World.block_lt_of_cell? _ _ hx126_0; first | rwa [add_block] at this | exact this) GW125.out)
                                  have hn126_1 : ad124.block ≠ gb125 := Nat.ne_of_lt (Nat.lt_of_lt_of_le (by have := World.block_lt_of_cell? _ _ hx126_0; first | rwa [add_block] at this | exact this) GW125.out)
                                  have hn126_2 : ad124.block ≠ gb125 := Nat.ne_of_lt (Nat.lt_of_lt_of_le (by have := World.block_lt_of_cell? _ _ hx126_0; first | rwa [add_block] at this | exact this) GW125.out)
                                  have hn126_3 : ad124.block ≠ gb125 := Nat.ne_of_lt (Nat.lt_of_lt_of_le (by have := World.block_lt_of_cell? _ _ hx126_0; first | rwa [add_block] at this | exact this) GW125.out)
                                  replace hx126_0 := (HB.out.cell (World.block_lt_of_cell? w _ hx126_0)).trans hx126_0
                                  replace hx126_1 := (HB.out.cell (World.block_lt_of_cell? w _ hx126_1)).trans hx126_1
                                  replace hx126_2 := (HB.out.cell (World.block_lt_of_cell? w _ hx126_2)).trans hx126_2
                                  replace hx126_3 := (HB.out.cell (World.block_lt_of_cell? w _ hx126_3)).trans hx126_3
                                  replace hx126_0 := (cell_far (p := ⟨gb125, 0, none⟩) (by first | (rw [add_block]; exact hn126_0) | (show (Addr.add _ _).block ≠ _; rw [add_block]; exact hn126_0) | exact hn126_0) (.int .i64 ((rd_T35 l0_1 x3_2).f0))).trans hx126_0
                                  replace hx126_1 := (cell_far (p := ⟨gb125, 0, none⟩) (by first | (rw [add_block]; exact hn126_0) | (show (Addr.add _ _).block ≠ _; rw [add_block]; exact hn126_0) | exact hn126_0) (.int .i64 ((rd_T35 l0_1 x3_2).f0))).trans hx126_1
                                  replace hx126_2 := (cell_far (p := ⟨gb125, 0, none⟩) (by first | (rw [add_block]; exact hn126_0) | (show (Addr.add _ _).block ≠ _; rw [add_block]; exact hn126_0) | exact hn126_0) (.int .i64 ((rd_T35 l0_1 x3_2).f0))).trans hx126_2
                                  replace hx126_3 := (cell_far (p := ⟨gb125, 0, none⟩) (by first | (rw [add_block]; exact hn126_0) | (show (Addr.add _ _).block ≠ _; rw [add_block]; exact hn126_0) | exact hn126_0) (.int .i64 ((rd_T35 l0_1 x3_2).f0))).trans hx126_3
                                  replace hx126_0 := (cell_far (p := ⟨gb125, 1, none⟩) (by first | (rw [add_block]; exact hn126_1) | (show (Addr.add _ _).block ≠ _; rw [add_block]; exact hn126_1) | exact hn126_1) (.int .i64 ((rd_T35 l0_1 x3_2).f1))).trans hx126_0
                                  replace hx126_1 := (cell_far (p := ⟨gb125, 1, none⟩) (by first | (rw [add_block]; exact hn126_1) | (show (Addr.add _ _).block ≠ _; rw [add_block]; exact hn126_1) | exact hn126_1) (.int .i64 ((rd_T35 l0_1 x3_2).f1))).trans hx126_1
                                  replace hx126_2 := (cell_far (p := ⟨gb125, 1, none⟩) (by first | (rw [add_block]; exact hn126_1) | (show (Addr.add _ _).block ≠ _; rw [add_block]; exact hn126_1) | exact hn126_1) (.int .i64 ((rd_T35 l0_1 x3_2).f1))).trans hx126_2
                                  replace hx126_3 := (cell_far (p := ⟨gb125, 1, none⟩) (by first | (rw [add_block]; exact hn126_1) | (show (Addr.add _ _).block ≠ _; rw [add_block]; exact hn126_1) | exact hn126_1) (.int .i64 ((rd_T35 l0_1 x3_2).f1))).trans hx126_3
                                  replace hx126_0 := (cell_far (p := ⟨gb125, 2, none⟩) (by first | (rw [add_block]; exact hn126_2) | (show (Addr.add _ _).block ≠ _; rw [add_block]; exact hn126_2) | exact hn126_2) (.int .i64 ((rd_T35 l0_1 x3_2).f2))).trans hx126_0
                                  replace hx126_1 := (cell_far (p := ⟨gb125, 2, none⟩) (by first | (rw [add_block]; exact hn126_2) | (show (Addr.add _ _).block ≠ _; rw [add_block]; exact hn126_2) | exact hn126_2) (.int .i64 ((rd_T35 l0_1 x3_2).f2))).trans hx126_1
                                  replace hx126_2 := (cell_far (p := ⟨gb125, 2, none⟩) (by first | (rw [add_block]; exact hn126_2) | (show (Addr.add _ _).block ≠ _; rw [add_block]; exact hn126_2) | exact hn126_2) (.int .i64 ((rd_T35 l0_1 x3_2).f2))).trans hx126_2
                                  replace hx126_3 := (cell_far (p := ⟨gb125, 2, none⟩) (by first | (rw [add_block]; exact hn126_2) | (show (Addr.add _ _).block ≠ _; rw [add_block]; exact hn126_2) | exact hn126_2) (.int .i64 ((rd_T35 l0_1 x3_2).f2))).trans hx126_3
                                  replace hx126_0 := (cell_far (p := ⟨gb125, 3, none⟩) (by first | (rw [add_block]; exact hn126_3) | (show (Addr.add _ _).block ≠ _; rw [add_block]; exact hn126_3) | exact hn126_3) (.string ((rd_T35 l0_1 x3_2).f3))).trans hx126_0
                                  replace hx126_1 := (cell_far (p := ⟨gb125, 3, none⟩) (by first | (rw [add_block]; exact hn126_3) | (show (Addr.add _ _).block ≠ _; rw [add_block]; exact hn126_3) | exact hn126_3) (.string ((rd_T35 l0_1 x3_2).f3))).trans hx126_1
                                  replace hx126_2 := (cell_far (p := ⟨gb125, 3, none⟩) (by first | (rw [add_block]; exact hn126_3) | (show (Addr.add _ _).block ≠ _; rw [add_block]; exact hn126_3) | exact hn126_3) (.string ((rd_T35 l0_1 x3_2).f3))).trans hx126_2
                                  replace hx126_3 := (cell_far (p := ⟨gb125, 3, none⟩) (by first | (rw [add_block]; exact hn126_3) | (show (Addr.add _ _).block ≠ _; rw [add_block]; exact hn126_3) | exact hn126_3) (.string ((rd_T35 l0_1 x3_2).f3))).trans hx126_3
                                  (try have hy126_0 := fun (n_ : Nat) => (show ((((((w14.drewN n_).setCell ⟨gb125, 0, none⟩ (.int .i64 ((rd_T35 l0_1 x3_2).f0))).setCell ⟨gb125, 1, none⟩ (.int .i64 ((rd_T35 l0_1 x3_2).f1))).setCell ⟨gb125, 2, none⟩ (.int .i64 ((rd_T35 l0_1 x3_2).f2))).setCell ⟨gb125, 3, none⟩ (.string ((rd_T35 l0_1 x3_2).f3)))).cell? _ = some _ from hx126_0))
                                  (try have hy126_1 := fun (n_ : Nat) => (show ((((((w14.drewN n_).setCell ⟨gb125, 0, none⟩ (.int .i64 ((rd_T35 l0_1 x3_2).f0))).setCell ⟨gb125, 1, none⟩ (.int .i64 ((rd_T35 l0_1 x3_2).f1))).setCell ⟨gb125, 2, none⟩ (.int .i64 ((rd_T35 l0_1 x3_2).f2))).setCell ⟨gb125, 3, none⟩ (.string ((rd_T35 l0_1 x3_2).f3)))).cell? _ = some _ from hx126_1))
                                  (try have hy126_2 := fun (n_ : Nat) => (show ((((((w14.drewN n_).setCell ⟨gb125, 0, none⟩ (.int .i64 ((rd_T35 l0_1 x3_2).f0))).setCell ⟨gb125, 1, none⟩ (.int .i64 ((rd_T35 l0_1 x3_2).f1))).setCell ⟨gb125, 2, none⟩ (.int .i64 ((rd_T35 l0_1 x3_2).f2))).setCell ⟨gb125, 3, none⟩ (.string ((rd_T35 l0_1 x3_2).f3)))).cell? _ = some _ from hx126_2))
                                  (try have hy126_3 := fun (n_ : Nat) => (show ((((((w14.drewN n_).setCell ⟨gb125, 0, none⟩ (.int .i64 ((rd_T35 l0_1 x3_2).f0))).setCell ⟨gb125, 1, none⟩ (.int .i64 ((rd_T35 l0_1 x3_2).f1))).setCell ⟨gb125, 2, none⟩ (.int .i64 ((rd_T35 l0_1 x3_2).f2))).setCell ⟨gb125, 3, none⟩ (.string ((rd_T35 l0_1 x3_2).f3)))).cell? _ = some _ from hx126_3))
                                  clear hn126_0
                                  clear hn126_1
                                  clear hn126_2
                                  clear hn126_3
                                  replace p126 := eq_true p126
                                  replace q126 := eq_true q126
                                  go_wp2
                                  repeat (go_quiet (fail); try go_wp2)
                                  go_meet
                                  case rel => exact ⟨_, (true), (by first | rfl | (simp; done) | (simp [*]; done)), H', ⟨by have := HJ1.out; have := HK2.out; first | omega | exact Nat.le_refl _⟩, ⟨by (with_reducible repeat (first | refine blk_drewN ?_ _ | refine blk_drew ?_ | refine blk_alloc ?_ _)); refine blk_far ?_ NB123_125.out _; (with_reducible repeat (first | refine blk_drewN ?_ _ | refine blk_drew ?_ | refine blk_alloc ?_ _)); refine blk_far ?_ NB123_125.out _; (with_reducible repeat (first | refine blk_drewN ?_ _ | refine blk_drew ?_ | refine blk_alloc ?_ _)); refine blk_far ?_ NB123_125.out _; (with_reducible repeat (first | refine blk_drewN ?_ _ | refine blk_drew ?_ | refine blk_alloc ?_ _)); refine blk_far ?_ NB123_125.out _; (with_reducible repeat (first | refine blk_drewN ?_ _ | refine blk_drew ?_ | refine blk_alloc ?_ _)); exact BK123.out⟩, ⟨by (with_reducible repeat (first | refine blk_drewN ?_ _ | refine blk_drew ?_ | refine blk_alloc ?_ _)); refine blk_put (cs := #[.int .i64 ((rd_T35 l0_1 x3_2).f0), .int .i64 ((rd_T35 l0_1 x3_2).f1), .int .i64 ((rd_T35 l0_1 x3_2).f2), .string (⟨#[]⟩ : ByteArray)]) ?_ 3 _ rfl; (with_reducible repeat (first | refine blk_drewN ?_ _ | refine blk_drew ?_ | refine blk_alloc ?_ _)); refine blk_put (cs := #[.int .i64 ((rd_T35 l0_1 x3_2).f0), .int .i64 ((rd_T35 l0_1 x3_2).f1), .int .i64 0, .string (⟨#[]⟩ : ByteArray)]) ?_ 2 _ rfl; (with_reducible repeat (first | refine blk_drewN ?_ _ | refine blk_drew ?_ | refine blk_alloc ?_ _)); refine blk_put (cs := #[.int .i64 ((rd_T35 l0_1 x3_2).f0), .int .i64 0, .int .i64 0, .string (⟨#[]⟩ : ByteArray)]) ?_ 1 _ rfl; (with_reducible repeat (first | refine blk_drewN ?_ _ | refine blk_drew ?_ | refine blk_alloc ?_ _)); refine blk_put (cs := #[.int .i64 0, .int .i64 0, .int .i64 0, .string (⟨#[]⟩ : ByteArray)]) ?_ 0 _ rfl; (with_reducible repeat (first | refine blk_drewN ?_ _ | refine blk_drew ?_ | refine blk_alloc ?_ _)); exact BK125.out⟩, ⟨by repeat (with_reducible first | exact HB.out | apply pw_below_drewN | apply below_drew1 | refine below_set ?_ (Aside0.out (by assumption)))⟩⟩
                                · rw [if_neg c36] at H
                                  have c36b0 : decide (20 < ((rd_T35 l0_1 x3_2).f1)) = false := decide_eq_false c36
                                  clear c36
                                  by_cases c40 : ((rd_T35 l0_1 x3_2).f2) < 0
                                  · rw [if_pos c40] at H
                                    have c40b0 : decide (((rd_T35 l0_1 x3_2).f2) < 0) = true := decide_eq_true c40
                                    clear c40
                                    have H' := Aside0.mk H
                                    clear H
                                    have hnb41 := NB125_123.out
                                    have hnc41 := NB123_125.out
                                    have hcz42_0 : w14.cell? ⟨gb125, 0, none⟩ = some (.int .i64 0) := (blk_cell BK125.out 0).trans rfl
                                    have hcz42_1 : w14.cell? ⟨gb125, 1, none⟩ = some (.int .i64 0) := (blk_cell BK125.out 1).trans rfl
                                    have hcz42_2 : w14.cell? ⟨gb125, 2, none⟩ = some (.int .i64 0) := (blk_cell BK125.out 2).trans rfl
                                    have hcz42_3 : w14.cell? ⟨gb125, 3, none⟩ = some (.string (⟨#[]⟩ : ByteArray)) := (blk_cell BK125.out 3).trans rfl
                                    have hfz42_0 := blk_frozen BK125.out 0
                                    have hfz42_1 := blk_frozen BK125.out 1
                                    have hfz42_2 := blk_frozen BK125.out 2
                                    have hfz42_3 := blk_frozen BK125.out 3
                                    have hcz43_0 : w14.cell? ⟨gb123, 0, none⟩ = some (.int .i64 a0_0) := (blk_cell BK123.out 0).trans rfl
                                    have hcz43_1 : w14.cell? ⟨gb123, 1, none⟩ = some (.slice (some ad124) l0_1.length c0_1) := (blk_cell BK123.out 1).trans rfl
                                    have hfz43_0 := blk_frozen BK123.out 0
                                    have hfz43_1 := blk_frozen BK123.out 1
                                    have p126 : 0 ≤ ((ji25) : Int) := of_decide_eq_true (by first | (with_reducible assumption) | assumption)
                                    have q126 : (ji25) < (l0_1.length : Int) := of_decide_eq_true (by first | (with_reducible assumption) | assumption)
                                    obtain ⟨ad126, e126, hx126_0, hx126_1, hx126_2, hx126_3⟩ := at_T35 HR0_1.out (ji25) p126 q126
                                    obtain rfl : ad124 = ad126 := (by injection e126)
                                    have hn126_0 : ad124.block ≠ gb125 := Nat.ne_of_lt (Nat.lt_of_lt_of_le (by have := World.block_lt_of_cell? _ _ hx126_0; first | rwa [add_block] at this | exact this) GW125.out)
                                    have hn126_1 : ad124.block ≠ gb125 := Nat.ne_of_lt (Nat.lt_of_lt_of_le (by have := World.block_lt_of_cell? _ _ hx126_0; first | rwa [add_block] at this | exact this) GW125.out)
                                    have hn126_2 : ad124.block ≠ gb125 := Nat.ne_of_lt (Nat.lt_of_lt_of_le (by have := World.block_lt_of_cell? _ _ hx126_0; first | rwa [add_block] at this | exact this) GW125.out)
                                    have hn126_3 : ad124.block ≠ gb125 := Nat.ne_of_lt (Nat.lt_of_lt_of_le (by have := World.block_lt_of_cell? _ _ hx126_0; first | rwa [add_block] at this | exact this) GW125.out)
                                    replace hx126_0 := (HB.out.cell (World.block_lt_of_cell? w _ hx126_0)).trans hx126_0
                                    replace hx126_1 := (HB.out.cell (World.block_lt_of_cell? w _ hx126_1)).trans hx126_1
                                    replace hx126_2 := (HB.out.cell (World.block_lt_of_cell? w _ hx126_2)).trans hx126_2
                                    replace hx126_3 := (HB.out.cell (World.block_lt_of_cell? w _ hx126_3)).trans hx126_3
                                    replace hx126_0 := (cell_far (p := ⟨gb125, 0, none⟩) (by first | (rw [add_block]; exact hn126_0) | (show (Addr.add _ _).block ≠ _; rw [add_block]; exact hn126_0) | exact hn126_0) (.int .i64 ((rd_T35 l0_1 x3_2).f0))).trans hx126_0
                                    replace hx126_1 := (cell_far (p := ⟨gb125, 0, none⟩) (by first | (rw [add_block]; exact hn126_0) | (show (Addr.add _ _).block ≠ _; rw [add_block]; exact hn126_0) | exact hn126_0) (.int .i64 ((rd_T35 l0_1 x3_2).f0))).trans hx126_1
                                    replace hx126_2 := (cell_far (p := ⟨gb125, 0, none⟩) (by first | (rw [add_block]; exact hn126_0) | (show (Addr.add _ _).block ≠ _; rw [add_block]; exact hn126_0) | exact hn126_0) (.int .i64 ((rd_T35 l0_1 x3_2).f0))).trans hx126_2
                                    replace hx126_3 := (cell_far (p := ⟨gb125, 0, none⟩) (by first | (rw [add_block]; exact hn126_0) | (show (Addr.add _ _).block ≠ _; rw [add_block]; exact hn126_0) | exact hn126_0) (.int .i64 ((rd_T35 l0_1 x3_2).f0))).trans hx126_3
                                    replace hx126_0 := (cell_far (p := ⟨gb125, 1, none⟩) (by first | (rw [add_block]; exact hn126_1) | (show (Addr.add _ _).block ≠ _; rw [add_block]; exact hn126_1) | exact hn126_1) (.int .i64 ((rd_T35 l0_1 x3_2).f1))).trans hx126_0
                                    replace hx126_1 := (cell_far (p := ⟨gb125, 1, none⟩) (by first | (rw [add_block]; exact hn126_1) | (show (Addr.add _ _).block ≠ _; rw [add_block]; exact hn126_1) | exact hn126_1) (.int .i64 ((rd_T35 l0_1 x3_2).f1))).trans hx126_1
                                    replace hx126_2 := (cell_far (p := ⟨gb125, 1, none⟩) (by first | (rw [add_block]; exact hn126_1) | (show (Addr.add _ _).block ≠ _; rw [add_block]; exact hn126_1) | exact hn126_1) (.int .i64 ((rd_T35 l0_1 x3_2).f1))).trans hx126_2
                                    replace hx126_3 := (cell_far (p := ⟨gb125, 1, none⟩) (by first | (rw [add_block]; exact hn126_1) | (show (Addr.add _ _).block ≠ _; rw [add_block]; exact hn126_1) | exact hn126_1) (.int .i64 ((rd_T35 l0_1 x3_2).f1))).trans hx126_3
                                    replace hx126_0 := (cell_far (p := ⟨gb125, 2, none⟩) (by first | (rw [add_block]; exact hn126_2) | (show (Addr.add _ _).block ≠ _; rw [add_block]; exact hn126_2) | exact hn126_2) (.int .i64 ((rd_T35 l0_1 x3_2).f2))).trans hx126_0
                                    replace hx126_1 := (cell_far (p := ⟨gb125, 2, none⟩) (by first | (rw [add_block]; exact hn126_2) | (show (Addr.add _ _).block ≠ _; rw [add_block]; exact hn126_2) | exact hn126_2) (.int .i64 ((rd_T35 l0_1 x3_2).f2))).trans hx126_1
                                    replace hx126_2 := (cell_far (p := ⟨gb125, 2, none⟩) (by first | (rw [add_block]; exact hn126_2) | (show (Addr.add _ _).block ≠ _; rw [add_block]; exact hn126_2) | exact hn126_2) (.int .i64 ((rd_T35 l0_1 x3_2).f2))).trans hx126_2
                                    replace hx126_3 := (cell_far (p := ⟨gb125, 2, none⟩) (by first | (rw [add_block]; exact hn126_2) | (show (Addr.add _ _).block ≠ _; rw [add_block]; exact hn126_2) | exact hn126_2) (.int .i64 ((rd_T35 l0_1 x3_2).f2))).trans hx126_3
                                    replace hx126_0 := (cell_far (p := ⟨gb125, 3, none⟩) (by first | (rw [add_block]; exact hn126_3) | (show (Addr.add _ _).block ≠ _; rw [add_block]; exact hn126_3) | exact hn126_3) (.string ((rd_T35 l0_1 x3_2).f3))).trans hx126_0
                                    replace hx126_1 := (cell_far (p := ⟨gb125, 3, none⟩) (by first | (rw [add_block]; exact hn126_3) | (show (Addr.add _ _).block ≠ _; rw [add_block]; exact hn126_3) | exact hn126_3) (.string ((rd_T35 l0_1 x3_2).f3))).trans hx126_1
                                    replace hx126_2 := (cell_far (p := ⟨gb125, 3, none⟩) (by first | (rw [add_block]; exact hn126_3) | (show (Addr.add _ _).block ≠ _; rw [add_block]; exact hn126_3) | exact hn126_3) (.string ((rd_T35 l0_1 x3_2).f3))).trans hx126_2
                                    replace hx126_3 := (cell_far (p := ⟨gb125, 3, none⟩) (by first | (rw [add_block]; exact hn126_3) | (show (Addr.add _ _).block ≠ _; rw [add_block]; exact hn126_3) | exact hn126_3) (.string ((rd_T35 l0_1 x3_2).f3))).trans hx126_3
                                    (try have hy126_0 := fun (n_ : Nat) => (show ((((((w14.drewN n_).setCell ⟨gb125, 0, none⟩ (.int .i64 ((rd_T35 l0_1 x3_2).f0))).setCell ⟨gb125, 1, none⟩ (.int .i64 ((rd_T35 l0_1 x3_2).f1))).setCell ⟨gb125, 2, none⟩ (.int .i64 ((rd_T35 l0_1 x3_2).f2))).setCell ⟨gb125, 3, none⟩ (.string ((rd_T35 l0_1 x3_2).f3)))).cell? _ = some _ from hx126_0))
                                    (try have hy126_1 := fun (n_ : Nat) => (show ((((((w14.drewN n_).setCell ⟨gb125, 0, none⟩ (.int .i64 ((rd_T35 l0_1 x3_2).f0))).setCell ⟨gb125, 1, none⟩ (.int .i64 ((rd_T35 l0_1 x3_2).f1))).setCell ⟨gb125, 2, none⟩ (.int .i64 ((rd_T35 l0_1 x3_2).f2))).setCell ⟨gb125, 3, none⟩ (.string ((rd_T35 l0_1 x3_2).f3)))).cell? _ = some _ from hx126_1))
                                    (try have hy126_2 := fun (n_ : Nat) => (show ((((((w14.drewN n_).setCell ⟨gb125, 0, none⟩ (.int .i64 ((rd_T35 l0_1 x3_2).f0))).setCell ⟨gb125, 1, none⟩ (.int .i64 ((rd_T35 l0_1 x3_2).f1))).setCell ⟨gb125, 2, none⟩ (.int .i64 ((rd_T35 l0_1 x3_2).f2))).setCell ⟨gb125, 3, none⟩ (.string ((rd_T35 l0_1 x3_2).f3)))).cell? _ = some _ from hx126_2))
                                    (try have hy126_3 := fun (n_ : Nat) => (show ((((((w14.drewN n_).setCell ⟨gb125, 0, none⟩ (.int .i64 ((rd_T35 l0_1 x3_2).f0))).setCell ⟨gb125, 1, none⟩ (.int .i64 ((rd_T35 l0_1 x3_2).f1))).setCell ⟨gb125, 2, none⟩ (.int .i64 ((rd_T35 l0_1 x3_2).f2))).setCell ⟨gb125, 3, none⟩ (.string ((rd_T35 l0_1 x3_2).f3)))).cell? _ = some _ from hx126_3))
                                    clear hn126_0
                                    clear hn126_1
                                    clear hn126_2
                                    clear hn126_3
                                    replace p126 := eq_true p126
                                    replace q126 := eq_true q126
                                    go_wp2
                                    repeat (go_quiet (fail); try go_wp2)
                                    go_meet
                                    case rel => exact ⟨_, (true), (by first | rfl | (simp; done) | (simp [*]; done)), H', ⟨by have := HJ1.out; have := HK2.out; first | omega | exact Nat.le_refl _⟩, ⟨by (with_reducible repeat (first | refine blk_drewN ?_ _ | refine blk_drew ?_ | refine blk_alloc ?_ _)); refine blk_far ?_ NB123_125.out _; (with_reducible repeat (first | refine blk_drewN ?_ _ | refine blk_drew ?_ | refine blk_alloc ?_ _)); refine blk_far ?_ NB123_125.out _; (with_reducible repeat (first | refine blk_drewN ?_ _ | refine blk_drew ?_ | refine blk_alloc ?_ _)); refine blk_far ?_ NB123_125.out _; (with_reducible repeat (first | refine blk_drewN ?_ _ | refine blk_drew ?_ | refine blk_alloc ?_ _)); refine blk_far ?_ NB123_125.out _; (with_reducible repeat (first | refine blk_drewN ?_ _ | refine blk_drew ?_ | refine blk_alloc ?_ _)); exact BK123.out⟩, ⟨by (with_reducible repeat (first | refine blk_drewN ?_ _ | refine blk_drew ?_ | refine blk_alloc ?_ _)); refine blk_put (cs := #[.int .i64 ((rd_T35 l0_1 x3_2).f0), .int .i64 ((rd_T35 l0_1 x3_2).f1), .int .i64 ((rd_T35 l0_1 x3_2).f2), .string (⟨#[]⟩ : ByteArray)]) ?_ 3 _ rfl; (with_reducible repeat (first | refine blk_drewN ?_ _ | refine blk_drew ?_ | refine blk_alloc ?_ _)); refine blk_put (cs := #[.int .i64 ((rd_T35 l0_1 x3_2).f0), .int .i64 ((rd_T35 l0_1 x3_2).f1), .int .i64 0, .string (⟨#[]⟩ : ByteArray)]) ?_ 2 _ rfl; (with_reducible repeat (first | refine blk_drewN ?_ _ | refine blk_drew ?_ | refine blk_alloc ?_ _)); refine blk_put (cs := #[.int .i64 ((rd_T35 l0_1 x3_2).f0), .int .i64 0, .int .i64 0, .string (⟨#[]⟩ : ByteArray)]) ?_ 1 _ rfl; (with_reducible repeat (first | refine blk_drewN ?_ _ | refine blk_drew ?_ | refine blk_alloc ?_ _)); refine blk_put (cs := #[.int .i64 0, .int .i64 0, .int .i64 0, .string (⟨#[]⟩ : ByteArray)]) ?_ 0 _ rfl; (with_reducible repeat (first | refine blk_drewN ?_ _ | refine blk_drew ?_ | refine blk_alloc ?_ _)); exact BK125.out⟩, ⟨by repeat (with_reducible first | exact HB.out | apply pw_below_drewN | apply below_drew1 | refine below_set ?_ (Aside0.out (by assumption)))⟩⟩
                                  · rw [if_neg c40] at H
                                    have c40b0 : decide (((rd_T35 l0_1 x3_2).f2) < 0) = false := decide_eq_false c40
                                    clear c40
                                    by_cases c44 : ((rd_T35 l0_1 x3_2).f2) > 20
                                    · rw [if_pos c44] at H
                                      have c44b0 : decide (20 < ((rd_T35 l0_1 x3_2).f2)) = true := decide_eq_true c44
                                      clear c44
                                      have H' := Aside0.mk H
                                      clear H
                                      have hnb45 := NB125_123.out
                                      have hnc45 := NB123_125.out
                                      have hcz46_0 : w14.cell? ⟨gb125, 0, none⟩ = some (.int .i64 0) := (blk_cell BK125.out 0).trans rfl
                                      have hcz46_1 : w14.cell? ⟨gb125, 1, none⟩ = some (.int .i64 0) := (blk_cell BK125.out 1).trans rfl
                                      have hcz46_2 : w14.cell? ⟨gb125, 2, none⟩ = some (.int .i64 0) := (blk_cell BK125.out 2).trans rfl
                                      have hcz46_3 : w14.cell? ⟨gb125, 3, none⟩ = some (.string (⟨#[]⟩ : ByteArray)) := (blk_cell BK125.out 3).trans rfl
                                      have hfz46_0 := blk_frozen BK125.out 0
                                      have hfz46_1 := blk_frozen BK125.out 1
                                      have hfz46_2 := blk_frozen BK125.out 2
                                      have hfz46_3 := blk_frozen BK125.out 3
                                      have hcz47_0 : w14.cell? ⟨gb123, 0, none⟩ = some (.int .i64 a0_0) := (blk_cell BK123.out 0).trans rfl
                                      have hcz47_1 : w14.cell? ⟨gb123, 1, none⟩ = some (.slice (some ad124) l0_1.length c0_1) := (blk_cell BK123.out 1).trans rfl
                                      have hfz47_0 := blk_frozen BK123.out 0
                                      have hfz47_1 := blk_frozen BK123.out 1
                                      have p126 : 0 ≤ ((ji25) : Int) := of_decide_eq_true (by first | (with_reducible assumption) | assumption)
                                      have q126 : (ji25) < (l0_1.length : Int) := of_decide_eq_true (by first | (with_reducible assumption) | assumption)
                                      obtain ⟨ad126, e126, hx126_0, hx126_1, hx126_2, hx126_3⟩ := at_T35 HR0_1.out (ji25) p126 q126
                                      obtain rfl : ad124 = ad126 := (by injection e126)
                                      have hn126_0 : ad124.block ≠ gb125 := Nat.ne_of_lt (Nat.lt_of_lt_of_le (by have := World.block_lt_of_cell? _ _ hx126_0; first | rwa [add_block] at this | exact this) GW125.out)
                                      have hn126_1 : ad124.block ≠ gb125 := Nat.ne_of_lt (Nat.lt_of_lt_of_le (by have := World.block_lt_of_cell? _ _ hx126_0; first | rwa [add_block] at this | exact this) GW125.out)
                                      have hn126_2 : ad124.block ≠ gb125 := Nat.ne_of_lt (Nat.lt_of_lt_of_le (by have := World.block_lt_of_cell? _ _ hx126_0; first | rwa [add_block] at this | exact this) GW125.out)
                                      have hn126_3 : ad124.block ≠ gb125 := Nat.ne_of_lt (Nat.lt_of_lt_of_le (by have := World.block_lt_of_cell? _ _ hx126_0; first | rwa [add_block] at this | exact this) GW125.out)
                                      replace hx126_0 := (HB.out.cell (World.block_lt_of_cell? w _ hx126_0)).trans hx126_0
                                      replace hx126_1 := (HB.out.cell (World.block_lt_of_cell? w _ hx126_1)).trans hx126_1
                                      replace hx126_2 := (HB.out.cell (World.block_lt_of_cell? w _ hx126_2)).trans hx126_2
                                      replace hx126_3 := (HB.out.cell (World.block_lt_of_cell? w _ hx126_3)).trans hx126_3
                                      replace hx126_0 := (cell_far (p := ⟨gb125, 0, none⟩) (by first | (rw [add_block]; exact hn126_0) | (show (Addr.add _ _).block ≠ _; rw [add_block]; exact hn126_0) | exact hn126_0) (.int .i64 ((rd_T35 l0_1 x3_2).f0))).trans hx126_0
                                      replace hx126_1 := (cell_far (p := ⟨gb125, 0, none⟩) (by first | (rw [add_block]; exact hn126_0) | (show (Addr.add _ _).block ≠ _; rw [add_block]; exact hn126_0) | exact hn126_0) (.int .i64 ((rd_T35 l0_1 x3_2).f0))).trans hx126_1
                                      replace hx126_2 := (cell_far (p := ⟨gb125, 0, none⟩) (by first | (rw [add_block]; exact hn126_0) | (show (Addr.add _ _).block ≠ _; rw [add_block]; exact hn126_0) | exact hn126_0) (.int .i64 ((rd_T35 l0_1 x3_2).f0))).trans hx126_2
                                      replace hx126_3 := (cell_far (p := ⟨gb125, 0, none⟩) (by first | (rw [add_block]; exact hn126_0) | (show (Addr.add _ _).block ≠ _; rw [add_block]; exact hn126_0) | exact hn126_0) (.int .i64 ((rd_T35 l0_1 x3_2).f0))).trans hx126_3
                                      replace hx126_0 := (cell_far (p := ⟨gb125, 1, none⟩) (by first | (rw [add_block]; exact hn126_1) | (show (Addr.add _ _).block ≠ _; rw [add_block]; exact hn126_1) | exact hn126_1) (.int .i64 ((rd_T35 l0_1 x3_2).f1))).trans hx126_0
                                      replace hx126_1 := (cell_far (p := ⟨gb125, 1, none⟩) (by first | (rw [add_block]; exact hn126_1) | (show (Addr.add _ _).block ≠ _; rw [add_block]; exact hn126_1) | exact hn126_1) (.int .i64 ((rd_T35 l0_1 x3_2).f1))).trans hx126_1
                                      replace hx126_2 := (cell_far (p := ⟨gb125, 1, none⟩) (by first | (rw [add_block]; exact hn126_1) | (show (Addr.add _ _).block ≠ _; rw [add_block]; exact hn126_1) | exact hn126_1) (.int .i64 ((rd_T35 l0_1 x3_2).f1))).trans hx126_2
                                      replace hx126_3 := (cell_far (p := ⟨gb125, 1, none⟩) (by first | (rw [add_block]; exact hn126_1) | (show (Addr.add _ _).block ≠ _; rw [add_block]; exact hn126_1) | exact hn126_1) (.int .i64 ((rd_T35 l0_1 x3_2).f1))).trans hx126_3
                                      replace hx126_0 := (cell_far (p := ⟨gb125, 2, none⟩) (by first | (rw [add_block]; exact hn126_2) | (show (Addr.add _ _).block ≠ _; rw [add_block]; exact hn126_2) | exact hn126_2) (.int .i64 ((rd_T35 l0_1 x3_2).f2))).trans hx126_0
                                      replace hx126_1 := (cell_far (p := ⟨gb125, 2, none⟩) (by first | (rw [add_block]; exact hn126_2) | (show (Addr.add _ _).block ≠ _; rw [add_block]; exact hn126_2) | exact hn126_2) (.int .i64 ((rd_T35 l0_1 x3_2).f2))).trans hx126_1
                                      replace hx126_2 := (cell_far (p := ⟨gb125, 2, none⟩) (by first | (rw [add_block]; exact hn126_2) | (show (Addr.add _ _).block ≠ _; rw [add_block]; exact hn126_2) | exact hn126_2) (.int .i64 ((rd_T35 l0_1 x3_2).f2))).trans hx126_2
                                      replace hx126_3 := (cell_far (p := ⟨gb125, 2, none⟩) (by first | (rw [add_block]; exact hn126_2) | (show (Addr.add _ _).block ≠ _; rw [add_block]; exact hn126_2) | exact hn126_2) (.int .i64 ((rd_T35 l0_1 x3_2).f2))).trans hx126_3
                                      replace hx126_0 := (cell_far (p := ⟨gb125, 3, none⟩) (by first | (rw [add_block]; exact hn126_3) | (show (Addr.add _ _).block ≠ _; rw [add_block]; exact hn126_3) | exact hn126_3) (.string ((rd_T35 l0_1 x3_2).f3))).trans hx126_0
                                      replace hx126_1 := (cell_far (p := ⟨gb125, 3, none⟩) (by first | (rw [add_block]; exact hn126_3) | (show (Addr.add _ _).block ≠ _; rw [add_block]; exact hn126_3) | exact hn126_3) (.string ((rd_T35 l0_1 x3_2).f3))).trans hx126_1
                                      replace hx126_2 := (cell_far (p := ⟨gb125, 3, none⟩) (by first | (rw [add_block]; exact hn126_3) | (show (Addr.add _ _).block ≠ _; rw [add_block]; exact hn126_3) | exact hn126_3) (.string ((rd_T35 l0_1 x3_2).f3))).trans hx126_2
                                      replace hx126_3 := (cell_far (p := ⟨gb125, 3, none⟩) (by first | (rw [add_block]; exact hn126_3) | (show (Addr.add _ _).block ≠ _; rw [add_block]; exact hn126_3) | exact hn126_3) (.string ((rd_T35 l0_1 x3_2).f3))).trans hx126_3
                                      (try have hy126_0 := fun (n_ : Nat) => (show ((((((w14.drewN n_).setCell ⟨gb125, 0, none⟩ (.int .i64 ((rd_T35 l0_1 x3_2).f0))).setCell ⟨gb125, 1, none⟩ (.int .i64 ((rd_T35 l0_1 x3_2).f1))).setCell ⟨gb125, 2, none⟩ (.int .i64 ((rd_T35 l0_1 x3_2).f2))).setCell ⟨gb125, 3, none⟩ (.string ((rd_T35 l0_1 x3_2).f3)))).cell? _ = some _ from hx126_0))
                                      (try have hy126_1 := fun (n_ : Nat) => (show ((((((w14.drewN n_).setCell ⟨gb125, 0, none⟩ (.int .i64 ((rd_T35 l0_1 x3_2).f0))).setCell ⟨gb125, 1, none⟩ (.int .i64 ((rd_T35 l0_1 x3_2).f1))).setCell ⟨gb125, 2, none⟩ (.int .i64 ((rd_T35 l0_1 x3_2).f2))).setCell ⟨gb125, 3, none⟩ (.string ((rd_T35 l0_1 x3_2).f3)))).cell? _ = some _ from hx126_1))
                                      (try have hy126_2 := fun (n_ : Nat) => (show ((((((w14.drewN n_).setCell ⟨gb125, 0, none⟩ (.int .i64 ((rd_T35 l0_1 x3_2).f0))).setCell ⟨gb125, 1, none⟩ (.int .i64 ((rd_T35 l0_1 x3_2).f1))).setCell ⟨gb125, 2, none⟩ (.int .i64 ((rd_T35 l0_1 x3_2).f2))).setCell ⟨gb125, 3, none⟩ (.string ((rd_T35 l0_1 x3_2).f3)))).cell? _ = some _ from hx126_2))
                                      (try have hy126_3 := fun (n_ : Nat) => (show ((((((w14.drewN n_).setCell ⟨gb125, 0, none⟩ (.int .i64 ((rd_T35 l0_1 x3_2).f0))).setCell ⟨gb125, 1, none⟩ (.int .i64 ((rd_T35 l0_1 x3_2).f1))).setCell ⟨gb125, 2, none⟩ (.int .i64 ((rd_T35 l0_1 x3_2).f2))).setCell ⟨gb125, 3, none⟩ (.string ((rd_T35 l0_1 x3_2).f3)))).cell? _ = some _ from hx126_3))
                                      clear hn126_0
                                      clear hn126_1
                                      clear hn126_2
                                      clear hn126_3
                                      replace p126 := eq_true p126
                                      replace q126 := eq_true q126
                                      go_wp2
                                      repeat (go_quiet (fail); try go_wp2)
                                      go_meet
                                      case rel => exact ⟨_, (true), (by first | rfl | (simp; done) | (simp [*]; done)), H', ⟨by have := HJ1.out; have := HK2.out; first | omega | exact Nat.le_refl _⟩, ⟨by (with_reducible repeat (first | refine blk_drewN ?_ _ | refine blk_drew ?_ | refine blk_alloc ?_ _)); refine blk_far ?_ NB123_125.out _; (with_reducible repeat (first | refine blk_drewN ?_ _ | refine blk_drew ?_ | refine blk_alloc ?_ _)); refine blk_far ?_ NB123_125.out _; (with_reducible repeat (first | refine blk_drewN ?_ _ | refine blk_drew ?_ | refine blk_alloc ?_ _)); refine blk_far ?_ NB123_125.out _; (with_reducible repeat (first | refine blk_drewN ?_ _ | refine blk_drew ?_ | refine blk_alloc ?_ _)); refine blk_far ?_ NB123_125.out _; (with_reducible repeat (first | refine blk_drewN ?_ _ | refine blk_drew ?_ | refine blk_alloc ?_ _)); exact BK123.out⟩, ⟨by (with_reducible repeat (first | refine blk_drewN ?_ _ | refine blk_drew ?_ | refine blk_alloc ?_ _)); refine blk_put (cs := #[.int .i64 ((rd_T35 l0_1 x3_2).f0), .int .i64 ((rd_T35 l0_1 x3_2).f1), .int .i64 ((rd_T35 l0_1 x3_2).f2), .string (⟨#[]⟩ : ByteArray)]) ?_ 3 _ rfl; (with_reducible repeat (first | refine blk_drewN ?_ _ | refine blk_drew ?_ | refine blk_alloc ?_ _)); refine blk_put (cs := #[.int .i64 ((rd_T35 l0_1 x3_2).f0), .int .i64 ((rd_T35 l0_1 x3_2).f1), .int .i64 0, .string (⟨#[]⟩ : ByteArray)]) ?_ 2 _ rfl; (with_reducible repeat (first | refine blk_drewN ?_ _ | refine blk_drew ?_ | refine blk_alloc ?_ _)); refine blk_put (cs := #[.int .i64 ((rd_T35 l0_1 x3_2).f0), .int .i64 0, .int .i64 0, .string (⟨#[]⟩ : ByteArray)]) ?_ 1 _ rfl; (with_reducible repeat (first | refine blk_drewN ?_ _ | refine blk_drew ?_ | refine blk_alloc ?_ _)); refine blk_put (cs := #[.int .i64 0, .int .i64 0, .int .i64 0, .string (⟨#[]⟩ : ByteArray)]) ?_ 0 _ rfl; (with_reducible repeat (first | refine blk_drewN ?_ _ | refine blk_drew ?_ | refine blk_alloc ?_ _)); exact BK125.out⟩, ⟨by repeat (with_reducible first | exact HB.out | apply pw_below_drewN | apply below_drew1 | refine below_set ?_ (Aside0.out (by assumption)))⟩⟩
                                    · rw [if_neg c44] at H
                                      have c44b0 : decide (20 < ((rd_T35 l0_1 x3_2).f2)) = false := decide_eq_false c44
                                      clear c44
                                      have H' := Aside0.mk H
                                      clear H
                                      have hnb48 := NB125_123.out
                                      have hnc48 := NB123_125.out
                                      have hcz49_0 : w14.cell? ⟨gb125, 0, none⟩ = some (.int .i64 0) := (blk_cell BK125.out 0).trans rfl
                                      have hcz49_1 : w14.cell? ⟨gb125, 1, none⟩ = some (.int .i64 0) := (blk_cell BK125.out 1).trans rfl
                                      have hcz49_2 : w14.cell? ⟨gb125, 2, none⟩ = some (.int .i64 0) := (blk_cell BK125.out 2).trans rfl
                                      have hcz49_3 : w14.cell? ⟨gb125, 3, none⟩ = some (.string (⟨#[]⟩ : ByteArray)) := (blk_cell BK125.out 3).trans rfl
                                      have hfz49_0 := blk_frozen BK125.out 0
                                      have hfz49_1 := blk_frozen BK125.out 1
                                      have hfz49_2 := blk_frozen BK125.out 2
                                      have hfz49_3 := blk_frozen BK125.out 3
                                      have hcz50_0 : w14.cell? ⟨gb123, 0, none⟩ = some (.int .i64 a0_0) := (blk_cell BK123.out 0).trans rfl
                                      have hcz50_1 : w14.cell? ⟨gb123, 1, none⟩ = some (.slice (some ad124) l0_1.length c0_1) := (blk_cell BK123.out 1).trans rfl
                                      have hfz50_0 := blk_frozen BK123.out 0
                                      have hfz50_1 := blk_frozen BK123.out 1
                                      have p126 : 0 ≤ ((ji25) : Int) := of_decide_eq_true (by first | (with_reducible assumption) | assumption)
                                      have q126 : (ji25) < (l0_1.length : Int) := of_decide_eq_true (by first | (with_reducible assumption) | assumption)
                                      obtain ⟨ad126, e126, hx126_0, hx126_1, hx126_2, hx126_3⟩ := at_T35 HR0_1.out (ji25) p126 q126
                                      obtain rfl : ad124 = ad126 := (by injection e126)
                                      have hn126_0 : ad124.block ≠ gb125 := Nat.ne_of_lt (Nat.lt_of_lt_of_le (by have := World.block_lt_of_cell? _ _ hx126_0; first | rwa [add_block] at this | exact this) GW125.out)
                                      have hn126_1 : ad124.block ≠ gb125 := Nat.ne_of_lt (Nat.lt_of_lt_of_le (by have := World.block_lt_of_cell? _ _ hx126_0; first | rwa [add_block] at this | exact this) GW125.out)
                                      have hn126_2 : ad124.block ≠ gb125 := Nat.ne_of_lt (Nat.lt_of_lt_of_le (by have := World.block_lt_of_cell? _ _ hx126_0; first | rwa [add_block] at this | exact this) GW125.out)
                                      have hn126_3 : ad124.block ≠ gb125 := Nat.ne_of_lt (Nat.lt_of_lt_of_le (by have := World.block_lt_of_cell? _ _ hx126_0; first | rwa [add_block] at this | exact this) GW125.out)
                                      replace hx126_0 := (HB.out.cell (World.block_lt_of_cell? w _ hx126_0)).trans hx126_0
                                      replace hx126_1 := (HB.out.cell (World.block_lt_of_cell? w _ hx126_1)).trans hx126_1
                                      replace hx126_2 := (HB.out.cell (World.block_lt_of_cell? w _ hx126_2)).trans hx126_2
                                      replace hx126_3 := (HB.out.cell (World.block_lt_of_cell? w _ hx126_3)).trans hx126_3
                                      replace hx126_0 := (cell_far (p := ⟨gb125, 0, none⟩) (by first | (rw [add_block]; exact hn126_0) | (show (Addr.add _ _).block ≠ _; rw [add_block]; exact hn126_0) | exact hn126_0) (.int .i64 ((rd_T35 l0_1 x3_2).f0))).trans hx126_0
                                      replace hx126_1 := (cell_far (p := ⟨gb125, 0, none⟩) (by first | (rw [add_block]; exact hn126_0) | (show (Addr.add _ _).block ≠ _; rw [add_block]; exact hn126_0) | exact hn126_0) (.int .i64 ((rd_T35 l0_1 x3_2).f0))).trans hx126_1
                                      replace hx126_2 := (cell_far (p := ⟨gb125, 0, none⟩) (by first | (rw [add_block]; exact hn126_0) | (show (Addr.add _ _).block ≠ _; rw [add_block]; exact hn126_0) | exact hn126_0) (.int .i64 ((rd_T35 l0_1 x3_2).f0))).trans hx126_2
                                      replace hx126_3 := (cell_far (p := ⟨gb125, 0, none⟩) (by first | (rw [add_block]; exact hn126_0) | (show (Addr.add _ _).block ≠ _; rw [add_block]; exact hn126_0) | exact hn126_0) (.int .i64 ((rd_T35 l0_1 x3_2).f0))).trans hx126_3
                                      replace hx126_0 := (cell_far (p := ⟨gb125, 1, none⟩) (by first | (rw [add_block]; exact hn126_1) | (show (Addr.add _ _).block ≠ _; rw [add_block]; exact hn126_1) | exact hn126_1) (.int .i64 ((rd_T35 l0_1 x3_2).f1))).trans hx126_0
                                      replace hx126_1 := (cell_far (p := ⟨gb125, 1, none⟩) (by first | (rw [add_block]; exact hn126_1) | (show (Addr.add _ _).block ≠ _; rw [add_block]; exact hn126_1) | exact hn126_1) (.int .i64 ((rd_T35 l0_1 x3_2).f1))).trans hx126_1
                                      replace hx126_2 := (cell_far (p := ⟨gb125, 1, none⟩) (by first | (rw [add_block]; exact hn126_1) | (show (Addr.add _ _).block ≠ _; rw [add_block]; exact hn126_1) | exact hn126_1) (.int .i64 ((rd_T35 l0_1 x3_2).f1))).trans hx126_2
                                      replace hx126_3 := (cell_far (p := ⟨gb125, 1, none⟩) (by first | (rw [add_block]; exact hn126_1) | (show (Addr.add _ _).block ≠ _; rw [add_block]; exact hn126_1) | exact hn126_1) (.int .i64 ((rd_T35 l0_1 x3_2).f1))).trans hx126_3
                                      replace hx126_0 := (cell_far (p := ⟨gb125, 2, none⟩) (by first | (rw [add_block]; exact hn126_2) | (show (Addr.add _ _).block ≠ _; rw [add_block]; exact hn126_2) | exact hn126_2) (.int .i64 ((rd_T35 l0_1 x3_2).f2))).trans hx126_0
                                      replace hx126_1 := (cell_far (p := ⟨gb125, 2, none⟩) (by first | (rw [add_block]; exact hn126_2) | (show (Addr.add _ _).block ≠ _; rw [add_block]; exact hn126_2) | exact hn126_2) (.int .i64 ((rd_T35 l0_1 x3_2).f2))).trans hx126_1
                                      replace hx126_2 := (cell_far (p := ⟨gb125, 2, none⟩) (by first | (rw [add_block]; exact hn126_2) | (show (Addr.add _ _).block ≠ _; rw [add_block]; exact hn126_2) | exact hn126_2) (.int .i64 ((rd_T35 l0_1 x3_2).f2))).trans hx126_2
                                      replace hx126_3 := (cell_far (p := ⟨gb125, 2, none⟩) (by first | (rw [add_block]; exact hn126_2) | (show (Addr.add _ _).block ≠ _; rw [add_block]; exact hn126_2) | exact hn126_2) (.int .i64 ((rd_T35 l0_1 x3_2).f2))).trans hx126_3
                                      replace hx126_0 := (cell_far (p := ⟨gb125, 3, none⟩) (by first | (rw [add_block]; exact hn126_3) | (show (Addr.add _ _).block ≠ _; rw [add_block]; exact hn126_3) | exact hn126_3) (.string ((rd_T35 l0_1 x3_2).f3))).trans hx126_0
                                      replace hx126_1 := (cell_far (p := ⟨gb125, 3, none⟩) (by first | (rw [add_block]; exact hn126_3) | (show (Addr.add _ _).block ≠ _; rw [add_block]; exact hn126_3) | exact hn126_3) (.string ((rd_T35 l0_1 x3_2).f3))).trans hx126_1
                                      replace hx126_2 := (cell_far (p := ⟨gb125, 3, none⟩) (by first | (rw [add_block]; exact hn126_3) | (show (Addr.add _ _).block ≠ _; rw [add_block]; exact hn126_3) | exact hn126_3) (.string ((rd_T35 l0_1 x3_2).f3))).trans hx126_2
                                      replace hx126_3 := (cell_far (p := ⟨gb125, 3, none⟩) (by first | (rw [add_block]; exact hn126_3) | (show (Addr.add _ _).block ≠ _; rw [add_block]; exact hn126_3) | exact hn126_3) (.string ((rd_T35 l0_1 x3_2).f3))).trans hx126_3
                                      (try have hy126_0 := fun (n_ : Nat) => (show ((((((w14.drewN n_).setCell ⟨gb125, 0, none⟩ (.int .i64 ((rd_T35 l0_1 x3_2).f0))).setCell ⟨gb125, 1, none⟩ (.int .i64 ((rd_T35 l0_1 x3_2).f1))).setCell ⟨gb125, 2, none⟩ (.int .i64 ((rd_T35 l0_1 x3_2).f2))).setCell ⟨gb125, 3, none⟩ (.string ((rd_T35 l0_1 x3_2).f3)))).cell? _ = some _ from hx126_0))
                                      (try have hy126_1 := fun (n_ : Nat) => (show ((((((w14.drewN n_).setCell ⟨gb125, 0, none⟩ (.int .i64 ((rd_T35 l0_1 x3_2).f0))).setCell ⟨gb125, 1, none⟩ (.int .i64 ((rd_T35 l0_1 x3_2).f1))).setCell ⟨gb125, 2, none⟩ (.int .i64 ((rd_T35 l0_1 x3_2).f2))).setCell ⟨gb125, 3, none⟩ (.string ((rd_T35 l0_1 x3_2).f3)))).cell? _ = some _ from hx126_1))
                                      (try have hy126_2 := fun (n_ : Nat) => (show ((((((w14.drewN n_).setCell ⟨gb125, 0, none⟩ (.int .i64 ((rd_T35 l0_1 x3_2).f0))).setCell ⟨gb125, 1, none⟩ (.int .i64 ((rd_T35 l0_1 x3_2).f1))).setCell ⟨gb125, 2, none⟩ (.int .i64 ((rd_T35 l0_1 x3_2).f2))).setCell ⟨gb125, 3, none⟩ (.string ((rd_T35 l0_1 x3_2).f3)))).cell? _ = some _ from hx126_2))
                                      (try have hy126_3 := fun (n_ : Nat) => (show ((((((w14.drewN n_).setCell ⟨gb125, 0, none⟩ (.int .i64 ((rd_T35 l0_1 x3_2).f0))).setCell ⟨gb125, 1, none⟩ (.int .i64 ((rd_T35 l0_1 x3_2).f1))).setCell ⟨gb125, 2, none⟩ (.int .i64 ((rd_T35 l0_1 x3_2).f2))).setCell ⟨gb125, 3, none⟩ (.string ((rd_T35 l0_1 x3_2).f3)))).cell? _ = some _ from hx126_3))
                                      clear hn126_0
                                      clear hn126_1
                                      clear hn126_2
                                      clear hn126_3
                                      replace p126 := eq_true p126
                                      replace q126 := eq_true q126
                                      go_wp2
                                      repeat (go_quiet (fail); try go_wp2)
                                      go_meet
                                      case rel => exact ⟨_, (decide ((((rd_T35 l0_1 x3_2).f3).size : Int) > 2000)), (by first | rfl | (simp; done) | (simp [*]; done)), H', ⟨by have := HJ1.out; have := HK2.out; first | omega | exact Nat.le_refl _⟩, ⟨by (with_reducible repeat (first | refine blk_drewN ?_ _ | refine blk_drew ?_ | refine blk_alloc ?_ _)); refine blk_far ?_ NB123_125.out _; (with_reducible repeat (first | refine blk_drewN ?_ _ | refine blk_drew ?_ | refine blk_alloc ?_ _)); refine blk_far ?_ NB123_125.out _; (with_reducible repeat (first | refine blk_drewN ?_ _ | refine blk_drew ?_ | refine blk_alloc ?_ _)); refine blk_far ?_ NB123_125.out _; (with_reducible repeat (first | refine blk_drewN ?_ _ | refine blk_drew ?_ | refine blk_alloc ?_ _)); refine blk_far ?_ NB123_125.out _; (with_reducible repeat (first | refine blk_drewN ?_ _ | refine blk_drew ?_ | refine blk_alloc ?_ _)); exact BK123.out⟩, ⟨by (with_reducible repeat (first | refine blk_drewN ?_ _ | refine blk_drew ?_ | refine blk_alloc ?_ _)); refine blk_put (cs := #[.int .i64 ((rd_T35 l0_1 x3_2).f0), .int .i64 ((rd_T35 l0_1 x3_2).f1), .int .i64 ((rd_T35 l0_1 x3_2).f2), .string (⟨#[]⟩ : ByteArray)]) ?_ 3 _ rfl; (with_reducible repeat (first | refine blk_drewN ?_ _ | refine blk_drew ?_ | refine blk_alloc ?_ _)); refine blk_put (cs := #[.int .i64 ((rd_T35 l0_1 x3_2).f0), .int .i64 ((rd_T35 l0_1 x3_2).f1), .int .i64 0, .string (⟨#[]⟩ : ByteArray)]) ?_ 2 _ rfl; (with_reducible repeat (first | refine blk_drewN ?_ _ | refine blk_drew ?_ | refine blk_alloc ?_ _)); refine blk_put (cs := #[.int .i64 ((rd_T35 l0_1 x3_2).f0), .int .i64 0, .int .i64 0, .string (⟨#[]⟩ : ByteArray)]) ?_ 1 _ rfl; (with_reducible repeat (first | refine blk_drewN ?_ _ | refine blk_drew ?_ | refine blk_alloc ?_ _)); refine blk_put (cs := #[.int .i64 0, .int .i64 0, .int .i64 0, .string (⟨#[]⟩ : ByteArray)]) ?_ 0 _ rfl; (with_reducible repeat (first | refine blk_drewN ?_ _ | refine blk_drew ?_ | refine blk_alloc ?_ _)); exact BK125.out⟩, ⟨by repeat (with_reducible first | exact HB.out | apply pw_below_drewN | apply below_drew1 | refine below_set ?_ (Aside0.out (by assumption)))⟩⟩
                          · rw [if_neg c27] at H
                            exact absurd H (by simp)
                        · rw [if_neg c26] at H
                          exact absurd H (by simp)
                      · rw [if_neg c24] at H
                        have c24b0 : decide (0 < x3_2) = false := decide_eq_false c24
                        clear c24
                        by_cases c51 : ((rd_T35 l0_1 x3_2).f1) < 0
                        · rw [if_pos c51] at H
                          have c51b0 : decide (((rd_T35 l0_1 x3_2).f1) < 0) = true := decide_eq_true c51
                          clear c51
                          have H' := Aside0.mk H
                          clear H
                          have hnb52 := NB125_123.out
                          have hnc52 := NB123_125.out
                          have hcz53_0 : w14.cell? ⟨gb125, 0, none⟩ = some (.int .i64 0) := (blk_cell BK125.out 0).trans rfl
                          have hcz53_1 : w14.cell? ⟨gb125, 1, none⟩ = some (.int .i64 0) := (blk_cell BK125.out 1).trans rfl
                          have hcz53_2 : w14.cell? ⟨gb125, 2, none⟩ = some (.int .i64 0) := (blk_cell BK125.out 2).trans rfl
                          have hcz53_3 : w14.cell? ⟨gb125, 3, none⟩ = some (.string (⟨#[]⟩ : ByteArray)) := (blk_cell BK125.out 3).trans rfl
                          have hfz53_0 := blk_frozen BK125.out 0
                          have hfz53_1 := blk_frozen BK125.out 1
                          have hfz53_2 := blk_frozen BK125.out 2
                          have hfz53_3 := blk_frozen BK125.out 3
                          have hcz54_0 : w14.cell? ⟨gb123, 0, none⟩ = some (.int .i64 a0_0) := (blk_cell BK123.out 0).trans rfl
                          have hcz54_1 : w14.cell? ⟨gb123, 1, none⟩ = some (.slice (some ad124) l0_1.length c0_1) := (blk_cell BK123.out 1).trans rfl
                          have hfz54_0 := blk_frozen BK123.out 0
                          have hfz54_1 := blk_frozen BK123.out 1
                          go_wp2
                          repeat (go_quiet (fail); try go_wp2)
                          go_meet
                          case rel => exact ⟨_, (true), (by first | rfl | (simp; done) | (simp [*]; done)), H', ⟨by have := HJ1.out; have := HK2.out; first | omega | exact Nat.le_refl _⟩, ⟨by (with_reducible repeat (first | refine blk_drewN ?_ _ | refine blk_drew ?_ | refine blk_alloc ?_ _)); refine blk_far ?_ NB123_125.out _; (with_reducible repeat (first | refine blk_drewN ?_ _ | refine blk_drew ?_ | refine blk_alloc ?_ _)); refine blk_far ?_ NB123_125.out _; (with_reducible repeat (first | refine blk_drewN ?_ _ | refine blk_drew ?_ | refine blk_alloc ?_ _)); refine blk_far ?_ NB123_125.out _; (with_reducible repeat (first | refine blk_drewN ?_ _ | refine blk_drew ?_ | refine blk_alloc ?_ _)); refine blk_far ?_ NB123_125.out _; (with_reducible repeat (first | refine blk_drewN ?_ _ | refine blk_drew ?_ | refine blk_alloc ?_ _)); exact BK123.out⟩, ⟨by (with_reducible repeat (first | refine blk_drewN ?_ _ | refine blk_drew ?_ | refine blk_alloc ?_ _)); refine blk_put (cs := #[.int .i64 ((rd_T35 l0_1 x3_2).f0), .int .i64 ((rd_T35 l0_1 x3_2).f1), .int .i64 ((rd_T35 l0_1 x3_2).f2), .string (⟨#[]⟩ : ByteArray)]) ?_ 3 _ rfl; (with_reducible repeat (first | refine blk_drewN ?_ _ | refine blk_drew ?_ | refine blk_alloc ?_ _)); refine blk_put (cs := #[.int .i64 ((rd_T35 l0_1 x3_2).f0), .int .i64 ((rd_T35 l0_1 x3_2).f1), .int .i64 0, .string (⟨#[]⟩ : ByteArray)]) ?_ 2 _ rfl; (with_reducible repeat (first | refine blk_drewN ?_ _ | refine blk_drew ?_ | refine blk_alloc ?_ _)); refine blk_put (cs := #[.int .i64 ((rd_T35 l0_1 x3_2).f0), .int .i64 0, .int .i64 0, .string (⟨#[]⟩ : ByteArray)]) ?_ 1 _ rfl; (with_reducible repeat (first | refine blk_drewN ?_ _ | refine blk_drew ?_ | refine blk_alloc ?_ _)); refine blk_put (cs := #[.int .i64 0, .int .i64 0, .int .i64 0, .string (⟨#[]⟩ : ByteArray)]) ?_ 0 _ rfl; (with_reducible repeat (first | refine blk_drewN ?_ _ | refine blk_drew ?_ | refine blk_alloc ?_ _)); exact BK125.out⟩, ⟨by repeat (with_reducible first | exact HB.out | apply pw_below_drewN | apply below_drew1 | refine below_set ?_ (Aside0.out (by assumption)))⟩⟩
                        · rw [if_neg c51] at H
                          have c51b0 : decide (((rd_T35 l0_1 x3_2).f1) < 0) = false := decide_eq_false c51
                          clear c51
                          by_cases c55 : ((rd_T35 l0_1 x3_2).f1) > 20
                          · rw [if_pos c55] at H
                            have c55b0 : decide (20 < ((rd_T35 l0_1 x3_2).f1)) = true := decide_eq_true c55
                            clear c55
                            have H' := Aside0.mk H
                            clear H
                            have hnb56 := NB125_123.out
                            have hnc56 := NB123_125.out
                            have hcz57_0 : w14.cell? ⟨gb125, 0, none⟩ = some (.int .i64 0) := (blk_cell BK125.out 0).trans rfl
                            have hcz57_1 : w14.cell? ⟨gb125, 1, none⟩ = some (.int .i64 0) := (blk_cell BK125.out 1).trans rfl
                            have hcz57_2 : w14.cell? ⟨gb125, 2, none⟩ = some (.int .i64 0) := (blk_cell BK125.out 2).trans rfl
                            have hcz57_3 : w14.cell? ⟨gb125, 3, none⟩ = some (.string (⟨#[]⟩ : ByteArray)) := (blk_cell BK125.out 3).trans rfl
                            have hfz57_0 := blk_frozen BK125.out 0
                            have hfz57_1 := blk_frozen BK125.out 1
                            have hfz57_2 := blk_frozen BK125.out 2
                            have hfz57_3 := blk_frozen BK125.out 3
                            have hcz58_0 : w14.cell? ⟨gb123, 0, none⟩ = some (.int .i64 a0_0) := (blk_cell BK123.out 0).trans rfl
                            have hcz58_1 : w14.cell? ⟨gb123, 1, none⟩ = some (.slice (some ad124) l0_1.length c0_1) := (blk_cell BK123.out 1).trans rfl
                            have hfz58_0 := blk_frozen BK123.out 0
                            have hfz58_1 := blk_frozen BK123.out 1
                            go_wp2
                            repeat (go_quiet (fail); try go_wp2)
                            go_meet
                            case rel => exact ⟨_, (true), (by first | rfl | (simp; done) | (simp [*]; done)), H', ⟨by have := HJ1.out; have := HK2.out; first | omega | exact Nat.le_refl _⟩, ⟨by (with_reducible repeat (first | refine blk_drewN ?_ _ | refine blk_drew ?_ | refine blk_alloc ?_ _)); refine blk_far ?_ NB123_125.out _; (with_reducible repeat (first | refine blk_drewN ?_ _ | refine blk_drew ?_ | refine blk_alloc ?_ _)); refine blk_far ?_ NB123_125.out _; (with_reducible repeat (first | refine blk_drewN ?_ _ | refine blk_drew ?_ | refine blk_alloc ?_ _)); refine blk_far ?_ NB123_125.out _; (with_reducible repeat (first | refine blk_drewN ?_ _ | refine blk_drew ?_ | refine blk_alloc ?_ _)); refine blk_far ?_ NB123_125.out _; (with_reducible repeat (first | refine blk_drewN ?_ _ | refine blk_drew ?_ | refine blk_alloc ?_ _)); exact BK123.out⟩, ⟨by (with_reducible repeat (first | refine blk_drewN ?_ _ | refine blk_drew ?_ | refine blk_alloc ?_ _)); refine blk_put (cs := #[.int .i64 ((rd_T35 l0_1 x3_2).f0), .int .i64 ((rd_T35 l0_1 x3_2).f1), .int .i64 ((rd_T35 l0_1 x3_2).f2), .string (⟨#[]⟩ : ByteArray)]) ?_ 3 _ rfl; (with_reducible repeat (first | refine blk_drewN ?_ _ | refine blk_drew ?_ | refine blk_alloc ?_ _)); refine blk_put (cs := #[.int .i64 ((rd_T35 l0_1 x3_2).f0), .int .i64 ((rd_T35 l0_1 x3_2).f1), .int .i64 0, .string (⟨#[]⟩ : ByteArray)]) ?_ 2 _ rfl; (with_reducible repeat (first | refine blk_drewN ?_ _ | refine blk_drew ?_ | refine blk_alloc ?_ _)); refine blk_put (cs := #[.int .i64 ((rd_T35 l0_1 x3_2).f0), .int .i64 0, .int .i64 0, .string (⟨#[]⟩ : ByteArray)]) ?_ 1 _ rfl; (with_reducible repeat (first | refine blk_drewN ?_ _ | refine blk_drew ?_ | refine blk_alloc ?_ _)); refine blk_put (cs := #[.int .i64 0, .int .i64 0, .int .i64 0, .string (⟨#[]⟩ : ByteArray)]) ?_ 0 _ rfl; (with_reducible repeat (first | refine blk_drewN ?_ _ | refine blk_drew ?_ | refine blk_alloc ?_ _)); exact BK125.out⟩, ⟨by repeat (with_reducible first | exact HB.out | apply pw_below_drewN | apply below_drew1 | refine below_set ?_ (Aside0.out (by assumption)))⟩⟩
                          · rw [if_neg c55] at H
                            have c55b0 : decide (20 < ((rd_T35 l0_1 x3_2).f1)) = false := decide_eq_false c55
                            clear c55
                            by_cases c59 : ((rd_T35 l0_1 x3_2).f2) < 0
                            · rw [if_pos c59] at H
                              have c59b0 : decide (((rd_T35 l0_1 x3_2).f2) < 0) = true := decide_eq_true c59
                              clear c59
                              have H' := Aside0.mk H
                              clear H
                              have hnb60 := NB125_123.out
                              have hnc60 := NB123_125.out
                              have hcz61_0 : w14.cell? ⟨gb125, 0, none⟩ = some (.int .i64 0) := (blk_cell BK125.out 0).trans rfl
                              have hcz61_1 : w14.cell? ⟨gb125, 1, none⟩ = some (.int .i64 0) := (blk_cell BK125.out 1).trans rfl
                              have hcz61_2 : w14.cell? ⟨gb125, 2, none⟩ = some (.int .i64 0) := (blk_cell BK125.out 2).trans rfl
                              have hcz61_3 : w14.cell? ⟨gb125, 3, none⟩ = some (.string (⟨#[]⟩ : ByteArray)) := (blk_cell BK125.out 3).trans rfl
                              have hfz61_0 := blk_frozen BK125.out 0
                              have hfz61_1 := blk_frozen BK125.out 1
                              have hfz61_2 := blk_frozen BK125.out 2
                              have hfz61_3 := blk_frozen BK125.out 3
                              have hcz62_0 : w14.cell? ⟨gb123, 0, none⟩ = some (.int .i64 a0_0) := (blk_cell BK123.out 0).trans rfl
                              have hcz62_1 : w14.cell? ⟨gb123, 1, none⟩ = some (.slice (some ad124) l0_1.length c0_1) := (blk_cell BK123.out 1).trans rfl
                              have hfz62_0 := blk_frozen BK123.out 0
                              have hfz62_1 := blk_frozen BK123.out 1
                              go_wp2
                              repeat (go_quiet (fail); try go_wp2)
                              go_meet
                              case rel => exact ⟨_, (true), (by first | rfl | (simp; done) | (simp [*]; done)), H', ⟨by have := HJ1.out; have := HK2.out; first | omega | exact Nat.le_refl _⟩, ⟨by (with_reducible repeat (first | refine blk_drewN ?_ _ | refine blk_drew ?_ | refine blk_alloc ?_ _)); refine blk_far ?_ NB123_125.out _; (with_reducible repeat (first | refine blk_drewN ?_ _ | refine blk_drew ?_ | refine blk_alloc ?_ _)); refine blk_far ?_ NB123_125.out _; (with_reducible repeat (first | refine blk_drewN ?_ _ | refine blk_drew ?_ | refine blk_alloc ?_ _)); refine blk_far ?_ NB123_125.out _; (with_reducible repeat (first | refine blk_drewN ?_ _ | refine blk_drew ?_ | refine blk_alloc ?_ _)); refine blk_far ?_ NB123_125.out _; (with_reducible repeat (first | refine blk_drewN ?_ _ | refine blk_drew ?_ | refine blk_alloc ?_ _)); exact BK123.out⟩, ⟨by (with_reducible repeat (first | refine blk_drewN ?_ _ | refine blk_drew ?_ | refine blk_alloc ?_ _)); refine blk_put (cs := #[.int .i64 ((rd_T35 l0_1 x3_2).f0), .int .i64 ((rd_T35 l0_1 x3_2).f1), .int .i64 ((rd_T35 l0_1 x3_2).f2), .string (⟨#[]⟩ : ByteArray)]) ?_ 3 _ rfl; (with_reducible repeat (first | refine blk_drewN ?_ _ | refine blk_drew ?_ | refine blk_alloc ?_ _)); refine blk_put (cs := #[.int .i64 ((rd_T35 l0_1 x3_2).f0), .int .i64 ((rd_T35 l0_1 x3_2).f1), .int .i64 0, .string (⟨#[]⟩ : ByteArray)]) ?_ 2 _ rfl; (with_reducible repeat (first | refine blk_drewN ?_ _ | refine blk_drew ?_ | refine blk_alloc ?_ _)); refine blk_put (cs := #[.int .i64 ((rd_T35 l0_1 x3_2).f0), .int .i64 0, .int .i64 0, .string (⟨#[]⟩ : ByteArray)]) ?_ 1 _ rfl; (with_reducible repeat (first | refine blk_drewN ?_ _ | refine blk_drew ?_ | refine blk_alloc ?_ _)); refine blk_put (cs := #[.int .i64 0, .int .i64 0, .int .i64 0, .string (⟨#[]⟩ : ByteArray)]) ?_ 0 _ rfl; (with_reducible repeat (first | refine blk_drewN ?_ _ | refine blk_drew ?_ | refine blk_alloc ?_ _)); exact BK125.out⟩, ⟨by repeat (with_reducible first | exact HB.out | apply pw_below_drewN | apply below_drew1 | refine below_set ?_ (Aside0.out (by assumption)))⟩⟩
                            · rw [if_neg c59] at H
                              have c59b0 : decide (((rd_T35 l0_1 x3_2).f2) < 0) = false := decide_eq_false c59
                              clear c59
                              by_cases c63 : ((rd_T35 l0_1 x3_2).f2) > 20
                              · rw [if_pos c63] at H
                                have c63b0 : decide (20 < ((rd_T35 l0_1 x3_2).f2)) = true := decide_eq_true c63
                                clear c63
                                have H' := Aside0.mk H
                                clear H
                                have hnb64 := NB125_123.out
                                have hnc64 := NB123_125.out
                                have hcz65_0 : w14.cell? ⟨gb125, 0, none⟩ = some (.int .i64 0) := (blk_cell BK125.out 0).trans rfl
                                have hcz65_1 : w14.cell? ⟨gb125, 1, none⟩ = some (.int .i64 0) := (blk_cell BK125.out 1).trans rfl
                                have hcz65_2 : w14.cell? ⟨gb125, 2, none⟩ = some (.int .i64 0) := (blk_cell BK125.out 2).trans rfl
                                have hcz65_3 : w14.cell? ⟨gb125, 3, none⟩ = some (.string (⟨#[]⟩ : ByteArray)) := (blk_cell BK125.out 3).trans rfl
                                have hfz65_0 := blk_frozen BK125.out 0
                                have hfz65_1 := blk_frozen BK125.out 1
                                have hfz65_2 := blk_frozen BK125.out 2
                                have hfz65_3 := blk_frozen BK125.out 3
                                have hcz66_0 : w14.cell? ⟨gb123, 0, none⟩ = some (.int .i64 a0_0) := (blk_cell BK123.out 0).trans rfl
                                have hcz66_1 : w14.cell? ⟨gb123, 1, none⟩ = some (.slice (some ad124) l0_1.length c0_1) := (blk_cell BK123.out 1).trans rfl
                                have hfz66_0 := blk_frozen BK123.out 0
                                have hfz66_1 := blk_frozen BK123.out 1
                                go_wp2
                                repeat (go_quiet (fail); try go_wp2)
                                go_meet
                                case rel => exact ⟨_, (true), (by first | rfl | (simp; done) | (simp [*]; done)), H', ⟨by have := HJ1.out; have := HK2.out; first | omega | exact Nat.le_refl _⟩, ⟨by (with_reducible repeat (first | refine blk_drewN ?_ _ | refine blk_drew ?_ | refine blk_alloc ?_ _)); refine blk_far ?_ NB123_125.out _; (with_reducible repeat (first | refine blk_drewN ?_ _ | refine blk_drew ?_ | refine blk_alloc ?_ _)); refine blk_far ?_ NB123_125.out _; (with_reducible repeat (first | refine blk_drewN ?_ _ | refine blk_drew ?_ | refine blk_alloc ?_ _)); refine blk_far ?_ NB123_125.out _; (with_reducible repeat (first | refine blk_drewN ?_ _ | refine blk_drew ?_ | refine blk_alloc ?_ _)); refine blk_far ?_ NB123_125.out _; (with_reducible repeat (first | refine blk_drewN ?_ _ | refine blk_drew ?_ | refine blk_alloc ?_ _)); exact BK123.out⟩, ⟨by (with_reducible repeat (first | refine blk_drewN ?_ _ | refine blk_drew ?_ | refine blk_alloc ?_ _)); refine blk_put (cs := #[.int .i64 ((rd_T35 l0_1 x3_2).f0), .int .i64 ((rd_T35 l0_1 x3_2).f1), .int .i64 ((rd_T35 l0_1 x3_2).f2), .string (⟨#[]⟩ : ByteArray)]) ?_ 3 _ rfl; (with_reducible repeat (first | refine blk_drewN ?_ _ | refine blk_drew ?_ | refine blk_alloc ?_ _)); refine blk_put (cs := #[.int .i64 ((rd_T35 l0_1 x3_2).f0), .int .i64 ((rd_T35 l0_1 x3_2).f1), .int .i64 0, .string (⟨#[]⟩ : ByteArray)]) ?_ 2 _ rfl; (with_reducible repeat (first | refine blk_drewN ?_ _ | refine blk_drew ?_ | refine blk_alloc ?_ _)); refine blk_put (cs := #[.int .i64 ((rd_T35 l0_1 x3_2).f0), .int .i64 0, .int .i64 0, .string (⟨#[]⟩ : ByteArray)]) ?_ 1 _ rfl; (with_reducible repeat (first | refine blk_drewN ?_ _ | refine blk_drew ?_ | refine blk_alloc ?_ _)); refine blk_put (cs := #[.int .i64 0, .int .i64 0, .int .i64 0, .string (⟨#[]⟩ : ByteArray)]) ?_ 0 _ rfl; (with_reducible repeat (first | refine blk_drewN ?_ _ | refine blk_drew ?_ | refine blk_alloc ?_ _)); exact BK125.out⟩, ⟨by repeat (with_reducible first | exact HB.out | apply pw_below_drewN | apply below_drew1 | refine below_set ?_ (Aside0.out (by assumption)))⟩⟩
                              · rw [if_neg c63] at H
                                have c63b0 : decide (20 < ((rd_T35 l0_1 x3_2).f2)) = false := decide_eq_false c63
                                clear c63
                                have H' := Aside0.mk H
                                clear H
                                have hnb67 := NB125_123.out
                                have hnc67 := NB123_125.out
                                have hcz68_0 : w14.cell? ⟨gb125, 0, none⟩ = some (.int .i64 0) := (blk_cell BK125.out 0).trans rfl
                                have hcz68_1 : w14.cell? ⟨gb125, 1, none⟩ = some (.int .i64 0) := (blk_cell BK125.out 1).trans rfl
                                have hcz68_2 : w14.cell? ⟨gb125, 2, none⟩ = some (.int .i64 0) := (blk_cell BK125.out 2).trans rfl
                                have hcz68_3 : w14.cell? ⟨gb125, 3, none⟩ = some (.string (⟨#[]⟩ : ByteArray)) := (blk_cell BK125.out 3).trans rfl
                                have hfz68_0 := blk_frozen BK125.out 0
                                have hfz68_1 := blk_frozen BK125.out 1
                                have hfz68_2 := blk_frozen BK125.out 2
                                have hfz68_3 := blk_frozen BK125.out 3
                                have hcz69_0 : w14.cell? ⟨gb123, 0, none⟩ = some (.int .i64 a0_0) := (blk_cell BK123.out 0).trans rfl
                                have hcz69_1 : w14.cell? ⟨gb123, 1, none⟩ = some (.slice (some ad124) l0_1.length c0_1) := (blk_cell BK123.out 1).trans rfl
                                have hfz69_0 := blk_frozen BK123.out 0
                                have hfz69_1 := blk_frozen BK123.out 1
                                go_wp2
                                repeat (go_quiet (fail); try go_wp2)
                                go_meet
                                case rel => exact ⟨_, (decide ((((rd_T35 l0_1 x3_2).f3).size : Int) > 2000)), (by first | rfl | (simp; done) | (simp [*]; done)), H', ⟨by have := HJ1.out; have := HK2.out; first | omega | exact Nat.le_refl _⟩, ⟨by (with_reducible repeat (first | refine blk_drewN ?_ _ | refine blk_drew ?_ | refine blk_alloc ?_ _)); refine blk_far ?_ NB123_125.out _; (with_reducible repeat (first | refine blk_drewN ?_ _ | refine blk_drew ?_ | refine blk_alloc ?_ _)); refine blk_far ?_ NB123_125.out _; (with_reducible repeat (first | refine blk_drewN ?_ _ | refine blk_drew ?_ | refine blk_alloc ?_ _)); refine blk_far ?_ NB123_125.out _; (with_reducible repeat (first | refine blk_drewN ?_ _ | refine blk_drew ?_ | refine blk_alloc ?_ _)); refine blk_far ?_ NB123_125.out _; (with_reducible repeat (first | refine blk_drewN ?_ _ | refine blk_drew ?_ | refine blk_alloc ?_ _)); exact BK123.out⟩, ⟨by (with_reducible repeat (first | refine blk_drewN ?_ _ | refine blk_drew ?_ | refine blk_alloc ?_ _)); refine blk_put (cs := #[.int .i64 ((rd_T35 l0_1 x3_2).f0), .int .i64 ((rd_T35 l0_1 x3_2).f1), .int .i64 ((rd_T35 l0_1 x3_2).f2), .string (⟨#[]⟩ : ByteArray)]) ?_ 3 _ rfl; (with_reducible repeat (first | refine blk_drewN ?_ _ | refine blk_drew ?_ | refine blk_alloc ?_ _)); refine blk_put (cs := #[.int .i64 ((rd_T35 l0_1 x3_2).f0), .int .i64 ((rd_T35 l0_1 x3_2).f1), .int .i64 0, .string (⟨#[]⟩ : ByteArray)]) ?_ 2 _ rfl; (with_reducible repeat (first | refine blk_drewN ?_ _ | refine blk_drew ?_ | refine blk_alloc ?_ _)); refine blk_put (cs := #[.int .i64 ((rd_T35 l0_1 x3_2).f0), .int .i64 0, .int .i64 0, .string (⟨#[]⟩ : ByteArray)]) ?_ 1 _ rfl; (with_reducible repeat (first | refine blk_drewN ?_ _ | refine blk_drew ?_ | refine blk_alloc ?_ _)); refine blk_put (cs := #[.int .i64 0, .int .i64 0, .int .i64 0, .string (⟨#[]⟩ : ByteArray)]) ?_ 0 _ rfl; (with_reducible repeat (first | refine blk_drewN ?_ _ | refine blk_drew ?_ | refine blk_alloc ?_ _)); exact BK125.out⟩, ⟨by repeat (with_reducible first | exact HB.out | apply pw_below_drewN | apply below_drew1 | refine below_set ?_ (Aside0.out (by assumption)))⟩⟩
                case rest =>
                  clear HC12
                  try clear c1
                  try clear p1
                  try clear q1
                  try clear hx1
                  try clear c2
                  try clear p2
                  try clear c3
                  try clear c4
                  try clear c5
                  try clear c6
                  try clear p6
                  try clear p12
                  try clear q12
                  try clear hx12
                  try clear c15
                  try clear c17
                  try clear c17b0
                  try clear c18
                  try clear c20
                  try clear c20b0
                  try clear c21
                  try clear c24
                  try clear c24b0
                  try clear c26
                  try clear c26b0
                  try clear c27
                  try clear c27b0
                  try clear c28
                  try clear c28b0
                  try clear c29
                  try clear c32
                  try clear c32b0
                  try clear c33
                  try clear c36
                  try clear c36b0
                  try clear c37
                  try clear c40
                  try clear c40b0
                  try clear c41
                  try clear c44
                  try clear c44b0
                  try clear c45
                  try clear c48
                  try clear c51
                  try clear c51b0
                  try clear c52
                  try clear c55
                  try clear c55b0
                  try clear c56
                  try clear c59
                  try clear c59b0
                  try clear c60
                  try clear c63
                  try clear c63b0
                  try clear c64
                  try clear p64
                  try clear c67
                  try clear hcz16_0
                  try clear hcz16_1
                  try clear hcz16_2
                  try clear hcz16_3
                  try clear hcz19_0
                  try clear hcz19_1
                  try clear hcz19_2
                  try clear hcz19_3
                  try clear hcz22_0
                  try clear hcz22_1
                  try clear hcz22_2
                  try clear hcz22_3
                  try clear hcz23_0
                  try clear hcz23_1
                  try clear hcz30_0
                  try clear hcz30_1
                  try clear hcz30_2
                  try clear hcz30_3
                  try clear hcz31_0
                  try clear hcz31_1
                  try clear hcz34_0
                  try clear hcz34_1
                  try clear hcz34_2
                  try clear hcz34_3
                  try clear hcz35_0
                  try clear hcz35_1
                  try clear hcz38_0
                  try clear hcz38_1
                  try clear hcz38_2
                  try clear hcz38_3
                  try clear hcz39_0
                  try clear hcz39_1
                  try clear hcz42_0
                  try clear hcz42_1
                  try clear hcz42_2
                  try clear hcz42_3
                  try clear hcz43_0
                  try clear hcz43_1
                  try clear hcz46_0
                  try clear hcz46_1
                  try clear hcz46_2
                  try clear hcz46_3
                  try clear hcz47_0
                  try clear hcz47_1
                  try clear hcz49_0
                  try clear hcz49_1
                  try clear hcz49_2
                  try clear hcz49_3
                  try clear hcz50_0
                  try clear hcz50_1
                  try clear hcz53_0
                  try clear hcz53_1
                  try clear hcz53_2
                  try clear hcz53_3
                  try clear hcz54_0
                  try clear hcz54_1
                  try clear hcz57_0
                  try clear hcz57_1
                  try clear hcz57_2
                  try clear hcz57_3
                  try clear hcz58_0
                  try clear hcz58_1
                  try clear hcz61_0
                  try clear hcz61_1
                  try clear hcz61_2
                  try clear hcz61_3
                  try clear hcz62_0
                  try clear hcz62_1
                  try clear hcz65_0
                  try clear hcz65_1
                  try clear hcz65_2
                  try clear hcz65_3
                  try clear hcz66_0
                  try clear hcz66_1
                  try clear hcz68_0
                  try clear hcz68_1
                  try clear hcz68_2
                  try clear hcz68_3
                  try clear hcz69_0
                  try clear hcz69_1
                  try clear hfz16_0
                  try clear hfz16_1
                  try clear hfz16_2
                  try clear hfz16_3
                  try clear hfz19_0
                  try clear hfz19_1
                  try clear hfz19_2
                  try clear hfz19_3
                  try clear hfz22_0
                  try clear hfz22_1
                  try clear hfz22_2
                  try clear hfz22_3
                  try clear hfz23_0
                  try clear hfz23_1
                  try clear hfz30_0
                  try clear hfz30_1
                  try clear hfz30_2
                  try clear hfz30_3
                  try clear hfz31_0
                  try clear hfz31_1
                  try clear hfz34_0
                  try clear hfz34_1
                  try clear hfz34_2
                  try clear hfz34_3
                  try clear hfz35_0
                  try clear hfz35_1
                  try clear hfz38_0
                  try clear hfz38_1
                  try clear hfz38_2
                  try clear hfz38_3
                  try clear hfz39_0
                  try clear hfz39_1
                  try clear hfz42_0
                  try clear hfz42_1
                  try clear hfz42_2
                  try clear hfz42_3
                  try clear hfz43_0
                  try clear hfz43_1
                  try clear hfz46_0
                  try clear hfz46_1
                  try clear hfz46_2
                  try clear hfz46_3
                  try clear hfz47_0
                  try clear hfz47_1
                  try clear hfz49_0
                  try clear hfz49_1
                  try clear hfz49_2
                  try clear hfz49_3
                  try clear hfz50_0
                  try clear hfz50_1
                  try clear hfz53_0
                  try clear hfz53_1
                  try clear hfz53_2
                  try clear hfz53_3
                  try clear hfz54_0
                  try clear hfz54_1
                  try clear hfz57_0
                  try clear hfz57_1
                  try clear hfz57_2
                  try clear hfz57_3
                  try clear hfz58_0
                  try clear hfz58_1
                  try clear hfz61_0
                  try clear hfz61_1
                  try clear hfz61_2
                  try clear hfz61_3
                  try clear hfz62_0
                  try clear hfz62_1
                  try clear hfz65_0
                  try clear hfz65_1
                  try clear hfz65_2
                  try clear hfz65_3
                  try clear hfz66_0
                  try clear hfz66_1
                  try clear hfz68_0
                  try clear hfz68_1
                  try clear hfz68_2
                  try clear hfz68_3
                  try clear hfz69_0
                  try clear hfz69_1
                  try clear hx124_0
                  try clear hx124_1
                  try clear hx124_2
                  try clear hx124_3
                  try clear hx126_0
                  try clear hx126_1
                  try clear hx126_2
                  try clear hx126_3
                  try clear p124
                  try clear p126
                  try clear q124
                  try clear q126
                  obtain ⟨kq, x82_11, rfl, HA, HJ11, BK123, BK125, HB⟩ := hcut
                  cases kq with
                  | zero => exact absurd HA.out (by simp [watchmanref21_Is.j2])
                  | succ kj11 =>
                    have H := HA.out
                    clear HA
                    simp only [watchmanref21_Is.j2] at H
                    by_cases c70 : x82_11 = true
                    · subst c70
                      have H1 : (some false) = some r := by rw [if_pos rfl] at H; exact H
                      clear H
                      have H := H1
                      clear H1
                      obtain rfl := Option.some.inj H
                      go_wp2
                      repeat (go_quiet (fail); try go_wp2)
                      go_ret
                      exact ⟨by first | rfl | (simp [errW_none, errW_some] <;> rfl) | (simp [*, errW_none, errW_some] <;> rfl), by repeat (with_reducible first | exact HB.out | apply pw_below_drewN | apply below_drew1 | refine below_set ?_ (Aside0.out (by assumption)))⟩
                    · replace c70 := Bool.eq_false_iff.mpr c70
                      subst c70
                      have H1 : (watchmanref21_Is.l0 kj11 (wrap64 (x3_2 + 1)) a0_0 l0_1) = some r := by rw [if_neg (show ¬ (false = true) by decide)] at H; exact H
                      clear H
                      have H := H1
                      clear H1
                      have H' := Aside0.mk H
                      clear H
                      go_wp2
                      repeat (go_quiet (fail); try go_wp2)
                      go_roundg kj11
                      case measure => have := HJ1.out; have := HK2.out; have := HJ11.out; omega
                      case rel => exact ⟨(wrap64 (x3_2 + 1)), (by first | rfl | (simp; done) | (simp [*]; done)), H', ⟨by have := HJ1.out; have := HK2.out; have := HJ11.out; omega⟩, ⟨by (with_reducible repeat (first | refine blk_drewN ?_ _ | refine blk_drew ?_ | refine blk_alloc ?_ _)); exact BK123.out⟩, ⟨by repeat (with_reducible first | exact HB.out | apply pw_below_drewN | apply below_drew1 | refine below_set ?_ (Aside0.out (by assumption)))⟩⟩
              · rw [if_neg c11] at H
                exact absurd H (by simp)
            · rw [if_neg c10] at H
              have c10b0 : decide (x3_2 < (l0_1.length : Int)) = false := decide_eq_false c10
              clear c10
              obtain rfl := Option.some.inj H
              have hcz71_0 : wr.cell? ⟨gb123, 0, none⟩ = some (.int .i64 a0_0) := (blk_cell BK123.out 0).trans rfl
              have hcz71_1 : wr.cell? ⟨gb123, 1, none⟩ = some (.slice A0_1 l0_1.length c0_1) := (blk_cell BK123.out 1).trans rfl
              have hfz71_0 := blk_frozen BK123.out 0
              have hfz71_1 := blk_frozen BK123.out 1
              go_wp2
              repeat (go_quiet (fail); try go_wp2)
              go_ret
              exact ⟨by first | rfl | (simp [errW_none, errW_some] <;> rfl) | (simp [*, errW_none, errW_some] <;> rfl), by repeat (with_reducible first | exact HB.out | apply pw_below_drewN | apply below_drew1 | refine below_set ?_ GE123.out)⟩

end Go.Proofs.Ytofbkpdpgmjllaa.F
