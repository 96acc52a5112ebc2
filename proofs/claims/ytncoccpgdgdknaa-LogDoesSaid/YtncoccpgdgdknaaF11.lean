-- Written by a program of this session (xprint.py), out of the translation and of contracts proved by hand.
import Derived.Test.YtncoccpgdgdknaaF0
import Derived.Test.YtncoccpgdgdknaaF8
namespace Go.Proofs.Ytncoccpgdgdknaa.F
open Go.RowKit Go.Proofs.YtncoccpgdgdknaaV.PrintWords Go.Proofs.YtncoccpgdgdknaaV.PrintLast Go.Proofs.YtncoccpgdgdknaaV.PrintMore
attribute [local go_sem] max2_int min2_int max_two min_two max_three min_three max_four min_four   -- for this text's walks alone
set_option linter.unusedVariables false
set_option linter.unusedSimpArgs false

/-! ### log_Common: function 9 -/
mutual
def log_Common.l0 : Nat → List (List ByteArray) → List ByteArray → Int → Int → Option (Int)
  | 0, _, _, _, _ => none
  | k + 1, x0, x12, x13, x14 => if x14 < x13 then (if 0 ≤ x14 then (if x14 < (x12.length : Int) then (if 1 ≤ (x0.length : Int) then ((some (x0.drop 1 : List (List ByteArray))).bind fun y276 => (log_Common.l1 k x0 x14 (rdOf ByteArray.empty x12 x14) x12 x13 x14 y276 (y276.length : Int) 0)) else (none)) else (none)) else (none)) else (if 0 < (x0.length : Int) then (some ((rd_L2 x0 0).length : Int)) else (none))
def log_Common.l1 : Nat → List (List ByteArray) → Int → ByteArray → List ByteArray → Int → Int → List (List ByteArray) → Int → Int → Option (Int)
  | 0, _, _, _, _, _, _, _, _, _ => none
  | k + 1, x0, x3, x4, x12, x13, x14, x20, x21, x22 => if x22 < x21 then (if 0 ≤ x22 then (if x22 < (x20.length : Int) then (if x3 ≥ ((rd_L2 x20 x22).length : Int) then (some x3) else (if 0 ≤ x3 then (if x3 < ((rd_L2 x20 x22).length : Int) then (if (rdOf ByteArray.empty (rd_L2 x20 x22) x3).toList = x4.toList then (log_Common.l1 k x0 x3 x4 x12 x13 x14 x20 x21 (wrap64 (x22 + 1))) else (some x3)) else (none)) else (none))) else (none)) else (none)) else (log_Common.l0 k x0 x12 x13 (wrap64 (x14 + 1)))
end
def log_Common.f (k : Nat) (l0 : List (List ByteArray)) : Option (Int) := if (l0.length : Int) = 0 then (some 0) else (if 0 < (l0.length : Int) then (log_Common.l0 k l0 (rd_L2 l0 0) ((rd_L2 l0 0).length : Int) 0) else (none))
theorem log_Common.mono_l : ∀ k, (∀ y0 y1 y2 y3, LeO (log_Common.l0 k y0 y1 y2 y3) (log_Common.l0 (k + 1) y0 y1 y2 y3)) ∧ (∀ y0 y1 y2 y3 y4 y5 y6 y7 y8, LeO (log_Common.l1 k y0 y1 y2 y3 y4 y5 y6 y7 y8) (log_Common.l1 (k + 1) y0 y1 y2 y3 y4 y5 y6 y7 y8))
  | 0 => ⟨fun _ _ _ _ r h => by simp [log_Common.l0] at h, fun _ _ _ _ _ _ _ _ _ r h => by simp [log_Common.l1] at h⟩
  | k + 1 => by
    obtain ⟨ih0, ih1⟩ := log_Common.mono_l k
    refine ⟨?_, ?_⟩
    · intro y0 y1 y2 y3
      unfold log_Common.l0
      repeat' first
      | (with_reducible exact ih0 _ _ _ _)
      | (with_reducible exact ih1 _ _ _ _ _ _ _ _ _)
      | (with_reducible exact LeO.refl _)
      | (with_reducible exact LeO.none _)
      | (with_reducible refine LeO.ite ?_ ?_)
      | (with_reducible refine LeO.bind ?_ (fun _ => ?_))
      | exact ih0 _ _ _ _
      | exact ih1 _ _ _ _ _ _ _ _ _
      | exact LeO.none _
      | refine LeO.ite ?_ ?_
      | refine LeO.bind ?_ (fun _ => ?_)
    · intro y0 y1 y2 y3 y4 y5 y6 y7 y8
      unfold log_Common.l1
      repeat' first
      | (with_reducible exact ih0 _ _ _ _)
      | (with_reducible exact ih1 _ _ _ _ _ _ _ _ _)
      | (with_reducible exact LeO.refl _)
      | (with_reducible exact LeO.none _)
      | (with_reducible refine LeO.ite ?_ ?_)
      | (with_reducible refine LeO.bind ?_ (fun _ => ?_))
      | exact ih0 _ _ _ _
      | exact ih1 _ _ _ _ _ _ _ _ _
      | exact LeO.none _
      | refine LeO.ite ?_ ?_
      | refine LeO.bind ?_ (fun _ => ?_)
theorem log_Common.mono : ∀ a0 k, LeO (log_Common.f k a0) (log_Common.f (k + 1) a0) := by
  intro a0 k
  obtain ⟨ih0, ih1⟩ := log_Common.mono_l k
  unfold log_Common.f
  repeat' first
      | (with_reducible exact ih0 _ _ _ _)
      | (with_reducible exact ih1 _ _ _ _ _ _ _ _ _)
      | (with_reducible exact LeO.refl _)
      | (with_reducible exact LeO.none _)
      | (with_reducible refine LeO.ite ?_ ?_)
      | (with_reducible refine LeO.bind ?_ (fun _ => ?_))
      | exact ih0 _ _ _ _
      | exact ih1 _ _ _ _ _ _ _ _ _
      | exact LeO.none _
      | refine LeO.ite ?_ ?_
      | refine LeO.bind ?_ (fun _ => ?_)
set_option maxHeartbeats 8000000 in
set_option maxRecDepth 100000 in
theorem log_Common.calls (k : Nat) (A0 : Option Addr) (c0 : Nat) (l0 : List (List ByteArray)) (r : Int) (w : World) (hr0 : Kd.C (Kd.slice 9 Kd.string) w A0 l0.length l0) (hc0 : l0.length ≤ c0) (h : log_Common.f k l0 = some r) :
    Calls Try.prog 9 #[.slice A0 l0.length c0] w fun e w' => e = .returned (.int .i64 r) ∧ Below w.heap.size w w' := by
  have HR0 := Aside0.mk hr0
  have HC0 := Aside0.mk hc0
  clear hr0 hc0
  have HB := Aside0.mk (Below.refl w.heap.size w)
  have H : (if (l0.length : Int) = 0 then (some 0) else (if 0 < (l0.length : Int) then (log_Common.l0 k l0 (rd_L2 l0 0) ((rd_L2 l0 0).length : Int) 0) else (none))) = some r := h
  clear h
  by_cases c2 : (l0.length : Int) = 0
  · rw [if_pos c2] at H
    have c2b0 : ((l0.length : Int) == 0) = true := beq_iff_eq.mpr c2
    have c2b1 : ((l0.length : Int) != 0) = false := bne_eq_false_iff_eq.mpr c2
    clear c2
    obtain rfl := Option.some.inj H
    go_enter Try.func9, Try.ntmps9
    go_wp2
    go_ret
    exact ⟨by first | rfl | (simp [errW_none, errW_some] <;> rfl) | (simp [*, errW_none, errW_some] <;> rfl), by repeat (with_reducible first | exact HB.out | apply pw_below_drewN | apply below_drew1)⟩
  · rw [if_neg c2] at H
    have c2b0 : ((l0.length : Int) == 0) = false := beq_eq_false_iff_ne.mpr c2
    have c2b1 : ((l0.length : Int) != 0) = true := bne_iff_ne.mpr c2
    have c2b2 : ¬ (l0 = []) := fun h_ => c2 (by rw [h_]; rfl)
    by_cases c3 : 0 < (l0.length : Int)
    · rw [if_pos c3] at H
      have c3b0 : decide (0 < (l0.length : Int)) = true := decide_eq_true c3
      have c3b1 : decide (0 < l0.length) = true := decide_eq_true (by omega)
      clear c3
      have H' := Aside0.mk H
      clear H
      have p273 : 0 ≤ (0 : Int) := (by omega)
      have q273 : 0 < (l0.length : Int) := of_decide_eq_true (by first | (with_reducible assumption) | assumption)
      obtain ⟨ad273, A273_0, c273_0, e273, hx273_0, hl273_0, hi273_0⟩ := at_L2 HR0.out 0 p273 q273
      cases e273
      have qi273 : (0 < l0.length) = True := eq_true (by omega)
      (try rw [show ((0 : Int)).toNat = 0 from rfl] at hx273_0)
      (try rw [Addr.add_zero'] at hx273_0)
      have HR273_0 := Aside0.mk hi273_0
      have HC273_0 := Aside0.mk hl273_0
      clear hi273_0 hl273_0
      replace p273 := eq_true p273
      replace q273 := eq_true q273
      go_enter Try.func9, Try.ntmps9
      go_wp2
      go_loopg [14] k (fun kq v14 w' => ∃ (x14_1 : Int), v14 = .int .i64 x14_1 ∧ Aside0 (log_Common.l0 kq l0 (rd_L2 l0 0) ((rd_L2 l0 0).length : Int) x14_1 = some r) ∧ Aside0 (kq ≤ k) ∧ Aside0 (Below w.heap.size w w'))
      case atStart => exact ⟨(0), (by first | rfl | (simp; done) | (simp [*]; done)), H', ⟨Nat.le_refl _⟩, ⟨by repeat (with_reducible first | exact HB.out | apply pw_below_drewN | apply below_drew1)⟩⟩
      case round =>
        clear H'
        try clear c2
        try clear c2b0
        try clear c2b1
        try clear c2b2
        try clear p2
        try clear q2
        try clear hx2
        try clear qi2
        try clear c3
        try clear c3b0
        try clear c3b1
        try clear hx273_0
        try clear p273
        try clear q273
        obtain ⟨x14_1, rfl, HA, HK1, HB⟩ := hrel
        cases gk with
        | zero => exact absurd HA.out (by simp [log_Common.l0])
        | succ k1 =>
          have H := HA.out
          clear HA
          simp only [log_Common.l0] at H
          by_cases c4 : x14_1 < ((rd_L2 l0 0).length : Int)
          · rw [if_pos c4] at H
            have c4b0 : decide (x14_1 < ((rd_L2 l0 0).length : Int)) = true := decide_eq_true c4
            clear c4
            by_cases c5 : 0 ≤ x14_1
            · rw [if_pos c5] at H
              have c5b0 : decide (0 ≤ x14_1) = true := decide_eq_true c5
              clear c5
              by_cases c6 : x14_1 < ((rd_L2 l0 0).length : Int)
              · rw [if_pos c6] at H
                have c6b0 : decide (x14_1 < ((rd_L2 l0 0).length : Int)) = true := decide_eq_true c6
                clear c6
                by_cases c7 : 1 ≤ (l0.length : Int)
                · rw [if_pos c7] at H
                  have c7b0 := eq_true c7
                  have c7b1 : decide (1 ≤ (l0.length : Int)) = true := decide_eq_true c7
                  clear c7
                  obtain ⟨y276, hy276⟩ : ∃ y_ : List (List ByteArray), y_ = (l0.drop 1) := ⟨_, rfl⟩
                  replace H : (log_Common.l1 k1 l0 x14_1 (rdOf ByteArray.empty (rd_L2 l0 0) x14_1) (rd_L2 l0 0) ((rd_L2 l0 0).length : Int) x14_1 y276 (y276.length : Int) 0) = some r := by first | (rw [hy276]; with_reducible exact H) | (have H2_ := (Option.bind_some _ _).symm.trans H; rw [hy276]; with_reducible exact H2_) | (have H2_ := (Option.bind_some _ _).symm.trans H; with_reducible exact H2_) | with_reducible exact H | (rw [hy276]; exact H) | exact H
                  have Ny276 := Aside0.mk hy276
                  clear hy276
                  have H' := Aside0.mk H
                  clear H
                  have p275 : 0 ≤ (x14_1 : Int) := of_decide_eq_true (by first | (with_reducible assumption) | assumption)
                  have q275 : x14_1 < ((rd_L2 l0 0).length : Int) := of_decide_eq_true (by first | (with_reducible assumption) | assumption)
                  obtain ⟨ad275, e275, hx275_0⟩ := Kd.at_string HR273_0.out x14_1 p275 q275
                  cases e275
                  replace hx275_0 := (HB.out.cell (World.block_lt_of_cell? w _ hx275_0)).trans hx275_0
                  replace p275 := eq_true p275
                  replace q275 := eq_true q275
                  have q8 : (1 : Int) ≤ ((l0.length : Int) : Int) := of_decide_eq_true (by first | (with_reducible assumption) | assumption)
                  obtain ⟨i08, hi08, _, hsz8, _⟩ := info_parts info22
                  have hroom8 : l0.length ≤ c0 := HC0.out
                  have hC8 : Kd.C (Kd.slice 9 Kd.string) _ (some ad273) l0.length l0 := HR0.out
                  have hcut8 := cut_from (P := Try.prog) 46 22 .i64 Try.underlying46 hi08 1 hsz8 (some ad273) l0.length c0 1 (by omega) q8
                  have hr8 := Kd.C_drop (m := (1 : Int).toNat) (c := c0) hC8 (by omega) hroom8
                  obtain ⟨A8, hA8⟩ : ∃ A1, A1 = (if c0 = (1 : Int).toNat then (some ad273) else ((some ad273) : Option Addr).map (·.add ((1 : Int).toNat * 1))) := ⟨_, rfl⟩
                  obtain ⟨c8, hc8⟩ : ∃ c1, c1 = c0 - (1 : Int).toNat := ⟨_, rfl⟩
                  have hy8 : y276.length = l0.length - (1 : Int).toNat := (by rw [Ny276.out, List.length_drop] <;> omega)
                  rw [show (l0).drop (1 : Int).toNat = y276 from Ny276.out.symm] at hr8
                  replace hr8 : Kd.C (Kd.slice 9 Kd.string) _ A8 y276.length y276 := (by rw [hA8]; exact hr8)
                  rw [← hy8, ← hA8, ← hc8] at hcut8
                  have HR279 := Aside0.mk hr8
                  have HC279 := Aside0.mk (show y276.length ≤ c8 from by rw [hy8, hc8]; exact Nat.sub_le_sub_right hroom8 _)
                  clear hr8 hC8 hroom8 hi08 hsz8 hc8
                  have KY8 := Aside0.mk hy8
                  have KA8 := Aside0.mk hA8
                  clear hy8 hA8
                  replace q8 := eq_true q8
                  go_wp2
                  go_loopg [22] k1 (fun kq v22 w' => ∃ (x22_2 : Int), v22 = .int .i64 x22_2 ∧ Aside0 (log_Common.l1 kq l0 x14_1 (rdOf ByteArray.empty (rd_L2 l0 0) x14_1) (rd_L2 l0 0) ((rd_L2 l0 0).length : Int) x14_1 y276 (y276.length : Int) x22_2 = some r) ∧ Aside0 (kq ≤ k1) ∧ Aside0 (Below w.heap.size w w'))
                  case atStart => exact ⟨(0), (by first | rfl | (simp; done) | (simp [*]; done)), H', ⟨Nat.le_refl _⟩, ⟨by repeat (with_reducible first | exact HB.out | apply pw_below_drewN | apply below_drew1)⟩⟩
                  case round =>
                    clear H'
                    try clear c1
                    try clear c2
                    try clear c2b0
                    try clear c2b1
                    try clear c2b2
                    try clear p2
                    try clear q2
                    try clear hx2
                    try clear qi2
                    try clear c3
                    try clear c3b0
                    try clear c3b1
                    try clear c4
                    try clear c4b0
                    try clear c5
                    try clear c5b0
                    try clear c6
                    try clear c6b0
                    try clear c7
                    try clear c7b0
                    try clear c7b1
                    try clear c8
                    try clear q8
                    try clear hx273_0
                    try clear hx275_0
                    try clear p2
                    try clear p273
                    try clear p275
                    try clear q2
                    try clear q273
                    try clear q275
                    try clear q8
                    obtain ⟨x22_2, rfl, HA, HK2, HB⟩ := hrel
                    cases gk with
                    | zero => exact absurd HA.out (by simp [log_Common.l1])
                    | succ k2 =>
                      have H := HA.out
                      clear HA
                      simp only [log_Common.l1] at H
                      by_cases c9 : x22_2 < (y276.length : Int)
                      · rw [if_pos c9] at H
                        have c9b0 : decide (x22_2 < (y276.length : Int)) = true := decide_eq_true c9
                        clear c9
                        by_cases c10 : 0 ≤ x22_2
                        · rw [if_pos c10] at H
                          have c10b0 : decide (0 ≤ x22_2) = true := decide_eq_true c10
                          clear c10
                          by_cases c11 : x22_2 < (y276.length : Int)
                          · rw [if_pos c11] at H
                            have c11b0 : decide (x22_2 < (y276.length : Int)) = true := decide_eq_true c11
                            clear c11
                            by_cases c12 : x14_1 ≥ ((rd_L2 y276 x22_2).length : Int)
                            · rw [if_pos c12] at H
                              have c12b0 : decide (((rd_L2 y276 x22_2).length : Int) ≤ x14_1) = true := decide_eq_true c12
                              clear c12
                              obtain rfl := Option.some.inj H
                              have p280 : 0 ≤ (x22_2 : Int) := of_decide_eq_true (by first | (with_reducible assumption) | assumption)
                              have q280 : x22_2 < (y276.length : Int) := of_decide_eq_true (by first | (with_reducible assumption) | assumption)
                              obtain ⟨ad280, A280_0, c280_0, e280, hx280_0, hl280_0, hi280_0⟩ := at_L2 HR279.out x22_2 p280 q280
                              cases e280
                              replace hx280_0 := (HB.out.cell (World.block_lt_of_cell? w _ hx280_0)).trans hx280_0
                              have HR280_0 := Aside0.mk hi280_0
                              have HC280_0 := Aside0.mk hl280_0
                              clear hi280_0 hl280_0
                              replace p280 := eq_true p280
                              replace q280 := eq_true q280
                              go_wp2
                              go_ret
                              exact ⟨by first | rfl | (simp [errW_none, errW_some] <;> rfl) | (simp [*, errW_none, errW_some] <;> rfl), by repeat (with_reducible first | exact HB.out | apply pw_below_drewN | apply below_drew1)⟩
                            · rw [if_neg c12] at H
                              have c12b0 : decide (((rd_L2 y276 x22_2).length : Int) ≤ x14_1) = false := decide_eq_false c12
                              clear c12
                              by_cases c13 : 0 ≤ x14_1
                              · rw [if_pos c13] at H
                                have c13b0 : decide (0 ≤ x14_1) = true := decide_eq_true c13
                                clear c13
                                by_cases c14 : x14_1 < ((rd_L2 y276 x22_2).length : Int)
                                · rw [if_pos c14] at H
                                  have c14b0 : decide (x14_1 < ((rd_L2 y276 x22_2).length : Int)) = true := decide_eq_true c14
                                  clear c14
                                  by_cases c15 : (rdOf ByteArray.empty (rd_L2 y276 x22_2) x14_1).toList = (rdOf ByteArray.empty (rd_L2 l0 0) x14_1).toList
                                  · rw [if_pos c15] at H
                                    have c15b0 : ((rdOf ByteArray.empty (rd_L2 y276 x22_2) x14_1).toList == (rdOf ByteArray.empty (rd_L2 l0 0) x14_1).toList) = true := beq_iff_eq.mpr c15
                                    have c15b1 : ((rdOf ByteArray.empty (rd_L2 y276 x22_2) x14_1).toList != (rdOf ByteArray.empty (rd_L2 l0 0) x14_1).toList) = false := bne_eq_false_iff_eq.mpr c15
                                    clear c15
                                    have H' := Aside0.mk H
                                    clear H
                                    have p280 : 0 ≤ (x22_2 : Int) := of_decide_eq_true (by first | (with_reducible assumption) | assumption)
                                    have q280 : x22_2 < (y276.length : Int) := of_decide_eq_true (by first | (with_reducible assumption) | assumption)
                                    obtain ⟨ad280, A280_0, c280_0, e280, hx280_0, hl280_0, hi280_0⟩ := at_L2 HR279.out x22_2 p280 q280
                                    cases e280
                                    replace hx280_0 := (HB.out.cell (World.block_lt_of_cell? w _ hx280_0)).trans hx280_0
                                    have HR280_0 := Aside0.mk hi280_0
                                    have HC280_0 := Aside0.mk hl280_0
                                    clear hi280_0 hl280_0
                                    replace p280 := eq_true p280
                                    replace q280 := eq_true q280
                                    have p281 : 0 ≤ (x14_1 : Int) := of_decide_eq_true (by first | (with_reducible assumption) | assumption)
                                    have q281 : x14_1 < ((rd_L2 y276 x22_2).length : Int) := of_decide_eq_true (by first | (with_reducible assumption) | assumption)
                                    obtain ⟨ad281, e281, hx281_0⟩ := Kd.at_string HR280_0.out x14_1 p281 q281
                                    cases e281
                                    replace hx281_0 := (HB.out.cell (World.block_lt_of_cell? w _ hx281_0)).trans hx281_0
                                    replace p281 := eq_true p281
                                    replace q281 := eq_true q281
                                    go_wp2
                                    go_roundg k2
                                    case measure => have := HK1.out; have := HK2.out; omega
                                    case rel => exact ⟨(wrap64 (x22_2 + 1)), (by first | rfl | (simp; done) | (simp [*]; done)), H', ⟨by have := HK1.out; have := HK2.out; omega⟩, ⟨by repeat (with_reducible first | exact HB.out | apply pw_below_drewN | apply below_drew1)⟩⟩
                                  · rw [if_neg c15] at H
                                    have c15b0 : ((rdOf ByteArray.empty (rd_L2 y276 x22_2) x14_1).toList == (rdOf ByteArray.empty (rd_L2 l0 0) x14_1).toList) = false := beq_eq_false_iff_ne.mpr c15
                                    have c15b1 : ((rdOf ByteArray.empty (rd_L2 y276 x22_2) x14_1).toList != (rdOf ByteArray.empty (rd_L2 l0 0) x14_1).toList) = true := bne_iff_ne.mpr c15
                                    obtain rfl := Option.some.inj H
                                    have p280 : 0 ≤ (x22_2 : Int) := of_decide_eq_true (by first | (with_reducible assumption) | assumption)
                                    have q280 : x22_2 < (y276.length : Int) := of_decide_eq_true (by first | (with_reducible assumption) | assumption)
                                    obtain ⟨ad280, A280_0, c280_0, e280, hx280_0, hl280_0, hi280_0⟩ := at_L2 HR279.out x22_2 p280 q280
                                    cases e280
                                    replace hx280_0 := (HB.out.cell (World.block_lt_of_cell? w _ hx280_0)).trans hx280_0
                                    have HR280_0 := Aside0.mk hi280_0
                                    have HC280_0 := Aside0.mk hl280_0
                                    clear hi280_0 hl280_0
                                    replace p280 := eq_true p280
                                    replace q280 := eq_true q280
                                    have p281 : 0 ≤ (x14_1 : Int) := of_decide_eq_true (by first | (with_reducible assumption) | assumption)
                                    have q281 : x14_1 < ((rd_L2 y276 x22_2).length : Int) := of_decide_eq_true (by first | (with_reducible assumption) | assumption)
                                    obtain ⟨ad281, e281, hx281_0⟩ := Kd.at_string HR280_0.out x14_1 p281 q281
                                    cases e281
                                    replace hx281_0 := (HB.out.cell (World.block_lt_of_cell? w _ hx281_0)).trans hx281_0
                                    replace p281 := eq_true p281
                                    replace q281 := eq_true q281
                                    go_wp2
                                    go_ret
                                    exact ⟨by first | rfl | (simp [errW_none, errW_some] <;> rfl) | (simp [*, errW_none, errW_some] <;> rfl), by repeat (with_reducible first | exact HB.out | apply pw_below_drewN | apply below_drew1)⟩
                                · rw [if_neg c14] at H
                                  exact absurd H (by simp)
                              · rw [if_neg c13] at H
                                exact absurd H (by simp)
                          · rw [if_neg c11] at H
                            exact absurd H (by simp)
                        · rw [if_neg c10] at H
                          exact absurd H (by simp)
                      · rw [if_neg c9] at H
                        have c9b0 : decide (x22_2 < (y276.length : Int)) = false := decide_eq_false c9
                        clear c9
                        have H' := Aside0.mk H
                        clear H
                        go_wp2
                        go_roundg k2
                        case measure => have := HK1.out; have := HK2.out; omega
                        case rel => exact ⟨(wrap64 (x14_1 + 1)), (by first | rfl | (simp; done) | (simp [*]; done)), H', ⟨by have := HK1.out; have := HK2.out; omega⟩, ⟨by repeat (with_reducible first | exact HB.out | apply pw_below_drewN | apply below_drew1)⟩⟩
                · rw [if_neg c7] at H
                  exact absurd H (by simp)
              · rw [if_neg c6] at H
                exact absurd H (by simp)
            · rw [if_neg c5] at H
              exact absurd H (by simp)
          · rw [if_neg c4] at H
            have c4b0 : decide (x14_1 < ((rd_L2 l0 0).length : Int)) = false := decide_eq_false c4
            clear c4
            by_cases c16 : 0 < (l0.length : Int)
            · rw [if_pos c16] at H
              have c16b0 : decide (0 < (l0.length : Int)) = true := decide_eq_true c16
              have c16b1 : decide (0 < l0.length) = true := decide_eq_true (by omega)
              clear c16
              obtain rfl := Option.some.inj H
              have p274 : 0 ≤ (0 : Int) := (by omega)
              have q274 : 0 < (l0.length : Int) := of_decide_eq_true (by first | (with_reducible assumption) | assumption)
              obtain ⟨ad274, A274_0, c274_0, e274, hx274_0, hl274_0, hi274_0⟩ := at_L2 HR0.out 0 p274 q274
              obtain rfl : ad273 = ad274 := (by injection e274)
              have qi274 : (0 < l0.length) = True := eq_true (by omega)
              (try rw [show ((0 : Int)).toNat = 0 from rfl] at hx274_0)
              (try rw [Addr.add_zero'] at hx274_0)
              replace hx274_0 := (HB.out.cell (World.block_lt_of_cell? w _ hx274_0)).trans hx274_0
              have HR274_0 := Aside0.mk hi274_0
              have HC274_0 := Aside0.mk hl274_0
              clear hi274_0 hl274_0
              replace p274 := eq_true p274
              replace q274 := eq_true q274
              go_wp2
              go_ret
              exact ⟨by first | rfl | (simp [errW_none, errW_some] <;> rfl) | (simp [*, errW_none, errW_some] <;> rfl), by repeat (with_reducible first | exact HB.out | apply pw_below_drewN | apply below_drew1)⟩
            · rw [if_neg c16] at H
              exact absurd H (by simp)
    · rw [if_neg c3] at H
      exact absurd H (by simp)

/-! ### log_Front: function 10 -/
def log_Front.f (k : Nat) (l0 : List ByteArray) (l1 : List ByteArray) : Option (Bool) := (log_Common.f k (([l0, l1] : List (List ByteArray)))).bind fun t285 => (some (t285 == (l0.length : Int)))
theorem log_Front.mono : ∀ a0 a1 k, LeO (log_Front.f k a0 a1) (log_Front.f (k + 1) a0 a1) := by
  intro a0 a1 k
  unfold log_Front.f
  repeat' first
      | (with_reducible exact log_Common.mono _ _)
      | (with_reducible exact LeO.refl _)
      | (with_reducible exact LeO.none _)
      | (with_reducible refine LeO.ite ?_ ?_)
      | (with_reducible refine LeO.bind ?_ (fun _ => ?_))
      | exact log_Common.mono _ _
      | exact LeO.none _
      | refine LeO.ite ?_ ?_
      | refine LeO.bind ?_ (fun _ => ?_)
set_option maxHeartbeats 8000000 in
set_option maxRecDepth 100000 in
theorem log_Front.calls (k : Nat) (P0_ : Nat → Prop) (A0 : Option Addr) (c0 : Nat) (l0 : List ByteArray) (P1_ : Nat → Prop) (A1 : Option Addr) (c1 : Nat) (l1 : List ByteArray) (r : Bool) (w : World) (hs0 : Kd.V Kd.string 9 w w.heap.size (fun k_ => P0_ k_) (.slice A0 l0.length c0) l0) (hs1 : Kd.V Kd.string 9 w w.heap.size (fun k_ => P1_ k_) (.slice A1 l1.length c1) l1) (h : log_Front.f k l0 l1 = some r) :
    Calls Try.prog 10 #[.slice A0 l0.length c0, .slice A1 l1.length c1] w fun e w' => e = .returned (.bool r) ∧ Below w.heap.size w w' := by
  have HO0 := Aside0.mk (show Kd.V Kd.string 9 w w.heap.size (fun k_ => ((P0_ k_ ∨ P1_ k_) ∨ w.heap.size ≤ k_)) (.slice A0 l0.length c0) l0 from Kd.V_mono hs0 (fun k_ hk => .inl (.inl hk)))
  have HO1 := Aside0.mk (show Kd.V Kd.string 9 w w.heap.size (fun k_ => ((P0_ k_ ∨ P1_ k_) ∨ w.heap.size ≤ k_)) (.slice A1 l1.length c1) l1 from Kd.V_mono hs1 (fun k_ hk => .inl (.inr hk)))
  have HB := Aside0.mk (Below.refl w.heap.size w)
  have H : ((log_Common.f k (([l0, l1] : List (List ByteArray)))).bind fun t285 => (some (t285 == (l0.length : Int)))) = some r := h
  clear h
  obtain ⟨y282, hy282⟩ : ∃ y_ : List (List ByteArray), y_ = (([l0, l1] : List (List ByteArray))) := ⟨_, rfl⟩
  replace H : ((log_Common.f k y282).bind fun t285 => (some (t285 == (l0.length : Int)))) = some r := by first | (rw [hy282]; with_reducible exact H) | (have H2_ := (Option.bind_some _ _).symm.trans H; rw [hy282]; with_reducible exact H2_) | (have H2_ := (Option.bind_some _ _).symm.trans H; with_reducible exact H2_) | with_reducible exact H | (rw [hy282]; exact H) | exact H
  have Ny282 := Aside0.mk hy282
  clear hy282
  replace H := Option.bind_eq_some_iff.mp H
  obtain ⟨t285, A30, H⟩ := H
  replace H : (some (t285 == (l0.length : Int))) = some r := H
  have A3 := Aside0.mk A30
  clear A30
  obtain rfl := Option.some.inj H
  go_enter Try.func10, Try.ntmps10
  go_wp2_with (first | ((with_reducible refine gate_dst (N := 7) rfl ?_); refine Kd.N_lit (Kd.slice 9 Kd.string) _ 22 ?hg (N' := 7) ?hd (xs := ([l0, l1] : List (List ByteArray))) (inner := [.slice A0 l0.length c0, .slice A1 l1.length c1]) (ok := (fun k_ => ((P0_ k_ ∨ P1_ k_) ∨ w.heap.size ≤ k_))) (okp := (fun k_ => ((P0_ k_ ∨ P1_ k_) ∨ w.heap.size ≤ k_))) ?hr ?hp (fun _ hk => hk) ((show ∀ k_, w.heap.size ≤ k_ → (fun k_ => ((P0_ k_ ∨ P1_ k_) ∨ w.heap.size ≤ k_)) k_ from fun k_ hk => (.inr (Nat.le_trans (below_size HB.out) hk))) _ (Nat.le_refl _)) (Below.refl _ _) (Nat.le_refl _) (by simp) ?_; (case hd => rfl); (case hg => rfl); (case hr => first | (go_simp; done) | (go_simp; rfl)); (case hp => exact (Reps.one (show Kd.FK (Kd.slice 9 Kd.string) _ _ l0 [.slice A0 l0.length c0] from (Kd.FK_slice_mk (Kd.V_reads' (Kd.V_mono (ok' := (fun k_ => ((P0_ k_ ∨ P1_ k_) ∨ w.heap.size ≤ k_))) (HO0.out) (fun k_ hk => hk))).2.1 (Kd.V_F (Kd.V_mono (ok' := (fun k_ => ((P0_ k_ ∨ P1_ k_) ∨ w.heap.size ≤ k_))) (HO0.out) (fun k_ hk => hk))))) (Reps.one (show Kd.FK (Kd.slice 9 Kd.string) _ _ l1 [.slice A1 l1.length c1] from (Kd.FK_slice_mk (Kd.V_reads' (Kd.V_mono (ok' := (fun k_ => ((P0_ k_ ∨ P1_ k_) ∨ w.heap.size ≤ k_))) (HO1.out) (fun k_ hk => hk))).2.1 (Kd.V_F (Kd.V_mono (ok' := (fun k_ => ((P0_ k_ ∨ P1_ k_) ∨ w.heap.size ≤ k_))) (HO1.out) (fun k_ hk => hk))))) (Reps.none _ _)))); intro v283 w4 ho5 hb hg_ hnew_; clear hg_ hnew_; (first | rw [← Ny282.out] at ho5 | (simp only [Int.reduceToNat] at ho5; rw [← Ny282.out] at ho5)); replace HO0 := Aside0.mk (Kd.V_elder' (HO0.out) (Kd.N_base ho5) hb); replace HO1 := Aside0.mk (Kd.V_elder' (HO1.out) (Kd.N_base ho5) hb); have HO284 := Aside0.mk (Kd.N_lower ho5 (below_size HB.out)); replace HB := Aside0.mk (below_step HB.out hb); clear hb ho5; obtain ⟨Ao6, co6, eo6⟩ := Kd.N_slice HO284.out; subst eo6) | ((with_reducible refine gate_callee (f := 9) rfl ?_); refine goesL_ (some 8) rfl rfl Try.func9 (by kernel_rfl) rfl #[.slice Ao6 y282.length co6] rfl (by (try simp only [List.map_toArray, List.map_cons, List.map_nil]); first | done | rfl | (simp only [List.length_drop, List.length_take]; rfl)) ?_; (with_reducible refine (log_Common.calls k _ _ y282 t285 _ ?side1 ?side2 A3.out).mono ?_); (case side1 => repeat (first | exact (Kd.N_reads' HO284.out).2.2 | (with_reducible refine Kd.C_alloc ?_ _) | (with_reducible refine Kd.C_drewN ?_ _) | (with_reducible refine Kd.C_drew ?_))); (case side2 => exact (Kd.N_reads' HO284.out).2.1); rintro e w7 ⟨rfl, hb⟩; refine ⟨_, rfl, ?_⟩; replace HO0 := Aside0.mk (Kd.V_below (HO0.out) hb); replace HO1 := Aside0.mk (Kd.V_below (HO1.out) hb); replace HO284 := Aside0.mk (Kd.N_below (HO284.out) hb); replace HB := Aside0.mk (below_step HB.out hb); (try clear hb); (try clear hb2); (try clear hk); (try clear hi)))
  go_ret
  exact ⟨by first | rfl | (simp [errW_none, errW_some] <;> rfl) | (simp [*, errW_none, errW_some] <;> rfl), by repeat (with_reducible first | exact HB.out | apply pw_below_drewN | apply below_drew1)⟩

/-! ### watchmanref23_Front: function 28 -/
def watchmanref23_Front.f (k : Nat) (l0 : List ByteArray) (l1 : List ByteArray) : Option (Bool) := if (l0.length : Int) ≤ (l1.length : Int) then (if 0 ≤ (l0.length : Int) then ((watchmanref01_Texts.f k l0 (l1.take ((l0.length : Int) : Int).toNat)).bind fun t353 => (some t353)) else (none)) else (some false)
theorem watchmanref23_Front.mono : ∀ a0 a1 k, LeO (watchmanref23_Front.f k a0 a1) (watchmanref23_Front.f (k + 1) a0 a1) := by
  intro a0 a1 k
  unfold watchmanref23_Front.f
  repeat' first
      | (with_reducible exact watchmanref01_Texts.mono _ _ _)
      | (with_reducible exact LeO.refl _)
      | (with_reducible exact LeO.none _)
      | (with_reducible refine LeO.ite ?_ ?_)
      | (with_reducible refine LeO.bind ?_ (fun _ => ?_))
      | exact watchmanref01_Texts.mono _ _ _
      | exact LeO.none _
      | refine LeO.ite ?_ ?_
      | refine LeO.bind ?_ (fun _ => ?_)
set_option maxHeartbeats 8000000 in
set_option maxRecDepth 100000 in
theorem watchmanref23_Front.calls (k : Nat) (A0 : Option Addr) (c0 : Nat) (l0 : List ByteArray) (A1 : Option Addr) (c1 : Nat) (l1 : List ByteArray) (r : Bool) (w : World) (hr0 : Kd.C Kd.string w A0 l0.length l0) (hc0 : l0.length ≤ c0) (hr1 : Kd.C Kd.string w A1 l1.length l1) (hc1 : l1.length ≤ c1) (h : watchmanref23_Front.f k l0 l1 = some r) :
    Calls Try.prog 28 #[.slice A0 l0.length c0, .slice A1 l1.length c1] w fun e w' => e = .returned (.bool r) ∧ Below w.heap.size w w' := by
  have HR0 := Aside0.mk hr0
  have HC0 := Aside0.mk hc0
  clear hr0 hc0
  have HR1 := Aside0.mk hr1
  have HC1 := Aside0.mk hc1
  clear hr1 hc1
  have HB := Aside0.mk (Below.refl w.heap.size w)
  have H : (if (l0.length : Int) ≤ (l1.length : Int) then (if 0 ≤ (l0.length : Int) then ((watchmanref01_Texts.f k l0 (l1.take ((l0.length : Int) : Int).toNat)).bind fun t353 => (some t353)) else (none)) else (some false)) = some r := h
  clear h
  by_cases c3 : (l0.length : Int) ≤ (l1.length : Int)
  · rw [if_pos c3] at H
    have c3b0 : decide ((l0.length : Int) ≤ (l1.length : Int)) = true := decide_eq_true c3
    have c3b1 : decide (l0.length ≤ l1.length) = true := decide_eq_true (Int.ofNat_le.mp c3)
    clear c3
    by_cases c4 : 0 ≤ (l0.length : Int)
    · rw [if_pos c4] at H
      have c4b0 := eq_true c4
      have c4b1 : decide (0 ≤ (l0.length : Int)) = true := decide_eq_true c4
      clear c4
      have c5b0 := eq_true (of_decide_eq_true (by first | (with_reducible assumption) | assumption) : (l0.length : Int) ≤ (l1.length : Int))
      replace H := Option.bind_eq_some_iff.mp H
      obtain ⟨t353, A60, H⟩ := H
      replace H : (some t353) = some r := H
      have A6 := Aside0.mk A60
      clear A60
      obtain rfl := Option.some.inj H
      obtain ⟨i07, hi07, _, hsz7, _⟩ := info_parts info9
      obtain ⟨hcut7, hA7, hC7⟩ := print_take_of (P := Try.prog) Value.string (⟨#[]⟩ : ByteArray) 22 9 .i64 Try.underlying22 hi07 hsz7 A1 c1 l1 (l0.length : Int) (of_decide_eq_true (by first | (with_reducible assumption) | assumption)) (of_decide_eq_true (by first | (with_reducible assumption) | assumption)) HC1.out
      have HR352 := Aside0.mk (Kd.C_of_reads (h1 := fun _ => rfl) (hA7 _ (Kd.reads_of_C HR1.out)))
      have HC352 := Aside0.mk hC7
      clear hA7 hC7 hi07 hsz7
      generalize hy : l1.take ((l0.length : Int) : Int).toNat = y at hcut7 HR352 HC352 A6
      clear hy
      go_enter Try.func28, Try.ntmps28
      go_wp2_with (first | (go_at_call 12; (with_reducible refine (watchmanref01_Texts.calls k _ _ l0 _ _ y t353 _ ?side1 ?side2 ?side3 ?side4 A6.out).mono ?_); (case side1 => repeat (first | exact HR0.out | (with_reducible refine Kd.C_alloc ?_ _) | (with_reducible refine Kd.C_drewN ?_ _) | (with_reducible refine Kd.C_drew ?_))); (case side2 => exact HC0.out); (case side3 => repeat (first | exact HR352.out | (with_reducible refine Kd.C_alloc ?_ _) | (with_reducible refine Kd.C_drewN ?_ _) | (with_reducible refine Kd.C_drew ?_))); (case side4 => exact HC352.out); rintro e w8 ⟨rfl, hb⟩; replace HB := Aside0.mk (below_step (by repeat (first | (with_reducible first | exact HB.out | apply below_alloc | apply pw_below_drewN | apply below_drew1) | exact HB.out)) hb); (try clear hb); (try clear hb2); (try clear hk); (try clear hi)))
      go_ret
      exact ⟨by first | rfl | (simp [errW_none, errW_some] <;> rfl) | (simp [*, errW_none, errW_some] <;> rfl), by repeat (first | (with_reducible first | exact HB.out | apply below_alloc | apply pw_below_drewN | apply below_drew1) | exact HB.out)⟩
    · rw [if_neg c4] at H
      exact absurd H (by simp)
  · rw [if_neg c3] at H
    have c3b0 : decide ((l0.length : Int) ≤ (l1.length : Int)) = false := decide_eq_false c3
    have c3b1 : decide (l0.length ≤ l1.length) = false := decide_eq_false (fun h => c3 (Int.ofNat_le.mpr h))
    clear c3
    obtain rfl := Option.some.inj H
    go_enter Try.func28, Try.ntmps28
    go_wp2
    go_ret
    exact ⟨by first | rfl | (simp [errW_none, errW_some] <;> rfl) | (simp [*, errW_none, errW_some] <;> rfl), by repeat (first | (with_reducible first | exact HB.out | apply below_alloc | apply pw_below_drewN | apply below_drew1) | exact HB.out)⟩

end Go.Proofs.Ytncoccpgdgdknaa.F
