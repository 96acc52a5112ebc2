-- Written by a program of this session (xprint.py), out of the translation and of contracts proved by hand.
import Derived.Test.YtncoccpgdgdknaaF0
namespace Go.Proofs.Ytncoccpgdgdknaa.F
open Go.RowKit Go.Proofs.YtncoccpgdgdknaaV.PrintWords Go.Proofs.YtncoccpgdgdknaaV.PrintLast Go.Proofs.YtncoccpgdgdknaaV.PrintMore
attribute [local go_sem] max2_int min2_int max_two min_two max_three min_three max_four min_four   -- for this text's walks alone
set_option linter.unusedVariables false
set_option linter.unusedSimpArgs false

/-! ### watchmanref23_Common: function 29 -/
mutual
def watchmanref23_Common.l0 : Nat → List (List ByteArray) → Int → Option (Int)
  | 0, _, _ => none
  | k + 1, x0, x3 => if 0 < (x0.length : Int) then (if x3 < ((rd_L2 x0 0).length : Int) then (watchmanref23_Common.l1 k x0 x3 1) else (some x3)) else (none)
def watchmanref23_Common.l1 : Nat → List (List ByteArray) → Int → Int → Option (Int)
  | 0, _, _, _ => none
  | k + 1, x0, x3, x4 => if x4 < (x0.length : Int) then (if 0 ≤ x4 then (if x3 ≥ ((rd_L2 x0 x4).length : Int) then (some x3) else (if 0 ≤ x3 then (if x3 < ((rd_L2 x0 x4).length : Int) then (if 0 < (x0.length : Int) then (if x3 < ((rd_L2 x0 0).length : Int) then (if (rdOf ByteArray.empty (rd_L2 x0 x4) x3).toList = (rdOf ByteArray.empty (rd_L2 x0 0) x3).toList then (watchmanref23_Common.l1 k x0 x3 (wrap64 (x4 + 1))) else (some x3)) else (none)) else (none)) else (none)) else (none))) else (none)) else (watchmanref23_Common.l0 k x0 (wrap64 (x3 + 1)))
end
def watchmanref23_Common.f (k : Nat) (l0 : List (List ByteArray)) : Option (Int) := if (l0.length : Int) = 0 then (some 0) else (watchmanref23_Common.l0 k l0 0)
theorem watchmanref23_Common.mono_l : ∀ k, (∀ y0 y1, LeO (watchmanref23_Common.l0 k y0 y1) (watchmanref23_Common.l0 (k + 1) y0 y1)) ∧ (∀ y0 y1 y2, LeO (watchmanref23_Common.l1 k y0 y1 y2) (watchmanref23_Common.l1 (k + 1) y0 y1 y2))
  | 0 => ⟨fun _ _ r h => by simp [watchmanref23_Common.l0] at h, fun _ _ _ r h => by simp [watchmanref23_Common.l1] at h⟩
  | k + 1 => by
    obtain ⟨ih0, ih1⟩ := watchmanref23_Common.mono_l k
    refine ⟨?_, ?_⟩
    · intro y0 y1
      unfold watchmanref23_Common.l0
      repeat' first
      | (with_reducible exact ih0 _ _)
      | (with_reducible exact ih1 _ _ _)
      | (with_reducible exact LeO.refl _)
      | (with_reducible exact LeO.none _)
      | (with_reducible refine LeO.ite ?_ ?_)
      | (with_reducible refine LeO.bind ?_ (fun _ => ?_))
      | exact ih0 _ _
      | exact ih1 _ _ _
      | exact LeO.none _
      | refine LeO.ite ?_ ?_
      | refine LeO.bind ?_ (fun _ => ?_)
    · intro y0 y1 y2
      unfold watchmanref23_Common.l1
      repeat' first
      | (with_reducible exact ih0 _ _)
      | (with_reducible exact ih1 _ _ _)
      | (with_reducible exact LeO.refl _)
      | (with_reducible exact LeO.none _)
      | (with_reducible refine LeO.ite ?_ ?_)
      | (with_reducible refine LeO.bind ?_ (fun _ => ?_))
      | exact ih0 _ _
      | exact ih1 _ _ _
      | exact LeO.none _
      | refine LeO.ite ?_ ?_
      | refine LeO.bind ?_ (fun _ => ?_)
theorem watchmanref23_Common.mono : ∀ a0 k, LeO (watchmanref23_Common.f k a0) (watchmanref23_Common.f (k + 1) a0) := by
  intro a0 k
  obtain ⟨ih0, ih1⟩ := watchmanref23_Common.mono_l k
  unfold watchmanref23_Common.f
  repeat' first
      | (with_reducible exact ih0 _ _)
      | (with_reducible exact ih1 _ _ _)
      | (with_reducible exact LeO.refl _)
      | (with_reducible exact LeO.none _)
      | (with_reducible refine LeO.ite ?_ ?_)
      | (with_reducible refine LeO.bind ?_ (fun _ => ?_))
      | exact ih0 _ _
      | exact ih1 _ _ _
      | exact LeO.none _
      | refine LeO.ite ?_ ?_
      | refine LeO.bind ?_ (fun _ => ?_)
set_option maxHeartbeats 8000000 in
set_option maxRecDepth 100000 in
theorem watchmanref23_Common.calls (k : Nat) (A0 : Option Addr) (c0 : Nat) (l0 : List (List ByteArray)) (r : Int) (w : World) (hr0 : Kd.C (Kd.slice 9 Kd.string) w A0 l0.length l0) (hc0 : l0.length ≤ c0) (h : watchmanref23_Common.f k l0 = some r) :
    Calls Try.prog 29 #[.slice A0 l0.length c0] w fun e w' => e = .returned (.int .i64 r) ∧ Drawn0 w w' := by
  have HR0 := Aside0.mk hr0
  have HC0 := Aside0.mk hc0
  clear hr0 hc0
  have H : (if (l0.length : Int) = 0 then (some 0) else (watchmanref23_Common.l0 k l0 0)) = some r := h
  clear h
  by_cases c2 : (l0.length : Int) = 0
  · rw [if_pos c2] at H
    have c2b0 : ((l0.length : Int) == 0) = true := beq_iff_eq.mpr c2
    have c2b1 : ((l0.length : Int) != 0) = false := bne_eq_false_iff_eq.mpr c2
    clear c2
    obtain rfl := Option.some.inj H
    go_enter Try.func29, Try.ntmps29
    go_wp2
    repeat (go_quiet (fail); try go_wp2)
    go_ret
    exact ⟨by first | rfl | (simp; done) | (simp [*]; done), by repeat (first | exact Drawn0.refl _ | apply Drawn0.step)⟩
  · rw [if_neg c2] at H
    have c2b0 : ((l0.length : Int) == 0) = false := beq_eq_false_iff_ne.mpr c2
    have c2b1 : ((l0.length : Int) != 0) = true := bne_iff_ne.mpr c2
    have c2b2 : ¬ (l0 = []) := fun h_ => c2 (by rw [h_]; rfl)
    have H' := Aside0.mk H
    clear H
    go_enter Try.func29, Try.ntmps29
    go_wp2
    repeat (go_quiet (fail); try go_wp2)
    go_loopg [3] k (fun kq v3 w' => ∃ (x3_1 : Int), v3 = .int .i64 x3_1 ∧ Aside0 (watchmanref23_Common.l0 kq l0 x3_1 = some r) ∧ Aside0 (kq ≤ k) ∧ Drawn0 w w')
    case atStart => exact ⟨(0), (by first | rfl | (simp; done) | (simp [*]; done)), H', ⟨Nat.le_refl _⟩, by repeat (first | exact Drawn0.refl _ | apply Drawn0.step)⟩
    case round =>
      clear H'
      try clear c2
      try clear c2b0
      try clear c2b1
      try clear c2b2
      try clear p2
      obtain ⟨x3_1, rfl, HA, HK1, ⟨m1, rfl⟩⟩ := hrel
      cases gk with
      | zero => exact absurd HA.out (by simp [watchmanref23_Common.l0])
      | succ k1 =>
        have H := HA.out
        clear HA
        simp only [watchmanref23_Common.l0] at H
        by_cases c3 : 0 < (l0.length : Int)
        · rw [if_pos c3] at H
          have c3b0 : decide (0 < (l0.length : Int)) = true := decide_eq_true c3
          have c3b1 : decide (0 < l0.length) = true := decide_eq_true (by omega)
          clear c3
          by_cases c4 : x3_1 < ((rd_L2 l0 0).length : Int)
          · rw [if_pos c4] at H
            have c4b0 : decide (x3_1 < ((rd_L2 l0 0).length : Int)) = true := decide_eq_true c4
            clear c4
            have H' := Aside0.mk H
            clear H
            have p286 : 0 ≤ (0 : Int) := (by omega)
            have q286 : 0 < (l0.length : Int) := of_decide_eq_true (by first | (with_reducible assumption) | assumption)
            obtain ⟨ad286, A286_0, c286_0, e286, hx286_0, hl286_0, hi286_0⟩ := at_L2 HR0.out 0 p286 q286
            cases e286
            have qi286 : (0 < l0.length) = True := eq_true (by omega)
            (try rw [show ((0 : Int)).toNat = 0 from rfl] at hx286_0)
            (try rw [Addr.add_zero'] at hx286_0)
            have HR286_0 := Aside0.mk hi286_0
            have HC286_0 := Aside0.mk hl286_0
            clear hi286_0 hl286_0
            replace p286 := eq_true p286
            replace q286 := eq_true q286
            go_wp2
            repeat (go_quiet (fail); try go_wp2)
            go_loopg [4] k1 (fun kq v4 w' => ∃ (x4_2 : Int), v4 = .int .i64 x4_2 ∧ Aside0 (watchmanref23_Common.l1 kq l0 x3_1 x4_2 = some r) ∧ Aside0 (kq ≤ k1) ∧ Drawn0 w w')
            case atStart => exact ⟨(1), (by first | rfl | (simp; done) | (simp [*]; done)), H', ⟨Nat.le_refl _⟩, by repeat (first | exact Drawn0.refl _ | apply Drawn0.step)⟩
            case round =>
              clear H'
              try clear c2
              try clear c2b0
              try clear c2b1
              try clear c2b2
              try clear p2
              try clear q2
              try clear hx2
              try clear qi2
              try clear c3
              try clear c3b0
              try clear c3b1
              try clear c4
              try clear c4b0
              try clear hx286_0
              try clear p2
              try clear p286
              try clear q286
              obtain ⟨x4_2, rfl, HA, HK2, ⟨m2, rfl⟩⟩ := hrel
              cases gk with
              | zero => exact absurd HA.out (by simp [watchmanref23_Common.l1])
              | succ k2 =>
                have H := HA.out
                clear HA
                simp only [watchmanref23_Common.l1] at H
                by_cases c5 : x4_2 < (l0.length : Int)
                · rw [if_pos c5] at H
                  have c5b0 : decide (x4_2 < (l0.length : Int)) = true := decide_eq_true c5
                  clear c5
                  by_cases c6 : 0 ≤ x4_2
                  · rw [if_pos c6] at H
                    have c6b0 : decide (0 ≤ x4_2) = true := decide_eq_true c6
                    clear c6
                    by_cases c7 : x3_1 ≥ ((rd_L2 l0 x4_2).length : Int)
                    · rw [if_pos c7] at H
                      have c7b0 : decide (((rd_L2 l0 x4_2).length : Int) ≤ x3_1) = true := decide_eq_true c7
                      clear c7
                      obtain rfl := Option.some.inj H
                      have p287 : 0 ≤ (x4_2 : Int) := of_decide_eq_true (by first | (with_reducible assumption) | assumption)
                      have q287 : x4_2 < (l0.length : Int) := of_decide_eq_true (by first | (with_reducible assumption) | assumption)
                      obtain ⟨ad287, A287_0, c287_0, e287, hx287_0, hl287_0, hi287_0⟩ := at_L2 HR0.out x4_2 p287 q287
                      obtain rfl : ad286 = ad287 := (by injection e287)
                      have HR287_0 := Aside0.mk hi287_0
                      have HC287_0 := Aside0.mk hl287_0
                      clear hi287_0 hl287_0
                      replace p287 := eq_true p287
                      replace q287 := eq_true q287
                      go_wp2
                      repeat (go_quiet (fail); try go_wp2)
                      go_ret
                      exact ⟨by first | rfl | (simp; done) | (simp [*]; done), by repeat (first | exact Drawn0.refl _ | apply Drawn0.step)⟩
                    · rw [if_neg c7] at H
                      have c7b0 : decide (((rd_L2 l0 x4_2).length : Int) ≤ x3_1) = false := decide_eq_false c7
                      clear c7
                      by_cases c8 : 0 ≤ x3_1
                      · rw [if_pos c8] at H
                        have c8b0 : decide (0 ≤ x3_1) = true := decide_eq_true c8
                        clear c8
                        by_cases c9 : x3_1 < ((rd_L2 l0 x4_2).length : Int)
                        · rw [if_pos c9] at H
                          have c9b0 : decide (x3_1 < ((rd_L2 l0 x4_2).length : Int)) = true := decide_eq_true c9
                          clear c9
                          by_cases c10 : 0 < (l0.length : Int)
                          · rw [if_pos c10] at H
                            have c10b0 : decide (0 < (l0.length : Int)) = true := decide_eq_true c10
                            have c10b1 : decide (0 < l0.length) = true := decide_eq_true (by omega)
                            clear c10
                            by_cases c11 : x3_1 < ((rd_L2 l0 0).length : Int)
                            · rw [if_pos c11] at H
                              have c11b0 : decide (x3_1 < ((rd_L2 l0 0).length : Int)) = true := decide_eq_true c11
                              clear c11
                              by_cases c12 : (rdOf ByteArray.empty (rd_L2 l0 x4_2) x3_1).toList = (rdOf ByteArray.empty (rd_L2 l0 0) x3_1).toList
                              · rw [if_pos c12] at H
                                have c12b0 : ((rdOf ByteArray.empty (rd_L2 l0 x4_2) x3_1).toList == (rdOf ByteArray.empty (rd_L2 l0 0) x3_1).toList) = true := beq_iff_eq.mpr c12
                                have c12b1 : ((rdOf ByteArray.empty (rd_L2 l0 x4_2) x3_1).toList != (rdOf ByteArray.empty (rd_L2 l0 0) x3_1).toList) = false := bne_eq_false_iff_eq.mpr c12
                                clear c12
                                have H' := Aside0.mk H
                                clear H
                                have p287 : 0 ≤ (x4_2 : Int) := of_decide_eq_true (by first | (with_reducible assumption) | assumption)
                                have q287 : x4_2 < (l0.length : Int) := of_decide_eq_true (by first | (with_reducible assumption) | assumption)
                                obtain ⟨ad287, A287_0, c287_0, e287, hx287_0, hl287_0, hi287_0⟩ := at_L2 HR0.out x4_2 p287 q287
                                obtain rfl : ad286 = ad287 := (by injection e287)
                                have HR287_0 := Aside0.mk hi287_0
                                have HC287_0 := Aside0.mk hl287_0
                                clear hi287_0 hl287_0
                                replace p287 := eq_true p287
                                replace q287 := eq_true q287
                                have p288 : 0 ≤ (x4_2 : Int) := of_decide_eq_true (by first | (with_reducible assumption) | assumption)
                                have q288 : x4_2 < (l0.length : Int) := of_decide_eq_true (by first | (with_reducible assumption) | assumption)
                                obtain ⟨ad288, A288_0, c288_0, e288, hx288_0, hl288_0, hi288_0⟩ := at_L2 HR0.out x4_2 p288 q288
                                obtain rfl : ad286 = ad288 := (by injection e288)
                                have HR288_0 := Aside0.mk hi288_0
                                have HC288_0 := Aside0.mk hl288_0
                                clear hi288_0 hl288_0
                                replace p288 := eq_true p288
                                replace q288 := eq_true q288
                                have ea_ := Option.some.inj (hx287_0.symm.trans hx288_0)
                                injection ea_ with ea_ en_ ec_
                                subst ea_
                                subst ec_
                                clear en_
                                have p289 : 0 ≤ (x3_1 : Int) := of_decide_eq_true (by first | (with_reducible assumption) | assumption)
                                have q289 : x3_1 < ((rd_L2 l0 x4_2).length : Int) := of_decide_eq_true (by first | (with_reducible assumption) | assumption)
                                obtain ⟨ad289, e289, hx289_0⟩ := Kd.at_string HR288_0.out x3_1 p289 q289
                                cases e289
                                replace p289 := eq_true p289
                                replace q289 := eq_true q289
                                have p290 : 0 ≤ (0 : Int) := (by omega)
                                have q290 : 0 < (l0.length : Int) := of_decide_eq_true (by first | (with_reducible assumption) | assumption)
                                obtain ⟨ad290, A290_0, c290_0, e290, hx290_0, hl290_0, hi290_0⟩ := at_L2 HR0.out 0 p290 q290
                                obtain rfl : ad286 = ad290 := (by injection e290)
                                have qi290 : (0 < l0.length) = True := eq_true (by omega)
                                (try rw [show ((0 : Int)).toNat = 0 from rfl] at hx290_0)
                                (try rw [Addr.add_zero'] at hx290_0)
                                have HR290_0 := Aside0.mk hi290_0
                                have HC290_0 := Aside0.mk hl290_0
                                clear hi290_0 hl290_0
                                replace p290 := eq_true p290
                                replace q290 := eq_true q290
                                have p291 : 0 ≤ (x3_1 : Int) := of_decide_eq_true (by first | (with_reducible assumption) | assumption)
                                have q291 : x3_1 < ((rd_L2 l0 0).length : Int) := of_decide_eq_true (by first | (with_reducible assumption) | assumption)
                                obtain ⟨ad291, e291, hx291_0⟩ := Kd.at_string HR290_0.out x3_1 p291 q291
                                cases e291
                                replace p291 := eq_true p291
                                replace q291 := eq_true q291
                                go_wp2
                                repeat (go_quiet (fail); try go_wp2)
                                go_roundg k2
                                case measure => have := HK1.out; have := HK2.out; omega
                                case rel => exact ⟨(wrap64 (x4_2 + 1)), (by first | rfl | (simp; done) | (simp [*]; done)), H', ⟨by have := HK1.out; have := HK2.out; omega⟩, by repeat (first | exact Drawn0.refl _ | apply Drawn0.step)⟩
                              · rw [if_neg c12] at H
                                have c12b0 : ((rdOf ByteArray.empty (rd_L2 l0 x4_2) x3_1).toList == (rdOf ByteArray.empty (rd_L2 l0 0) x3_1).toList) = false := beq_eq_false_iff_ne.mpr c12
                                have c12b1 : ((rdOf ByteArray.empty (rd_L2 l0 x4_2) x3_1).toList != (rdOf ByteArray.empty (rd_L2 l0 0) x3_1).toList) = true := bne_iff_ne.mpr c12
                                obtain rfl := Option.some.inj H
                                have p287 : 0 ≤ (x4_2 : Int) := of_decide_eq_true (by first | (with_reducible assumption) | assumption)
                                have q287 : x4_2 < (l0.length : Int) := of_decide_eq_true (by first | (with_reducible assumption) | assumption)
                                obtain ⟨ad287, A287_0, c287_0, e287, hx287_0, hl287_0, hi287_0⟩ := at_L2 HR0.out x4_2 p287 q287
                                obtain rfl : ad286 = ad287 := (by injection e287)
                                have HR287_0 := Aside0.mk hi287_0
                                have HC287_0 := Aside0.mk hl287_0
                                clear hi287_0 hl287_0
                                replace p287 := eq_true p287
                                replace q287 := eq_true q287
                                have p288 : 0 ≤ (x4_2 : Int) := of_decide_eq_true (by first | (with_reducible assumption) | assumption)
                                have q288 : x4_2 < (l0.length : Int) := of_decide_eq_true (by first | (with_reducible assumption) | assumption)
                                obtain ⟨ad288, A288_0, c288_0, e288, hx288_0, hl288_0, hi288_0⟩ := at_L2 HR0.out x4_2 p288 q288
                                obtain rfl : ad286 = ad288 := (by injection e288)
                                have HR288_0 := Aside0.mk hi288_0
                                have HC288_0 := Aside0.mk hl288_0
                                clear hi288_0 hl288_0
                                replace p288 := eq_true p288
                                replace q288 := eq_true q288
                                have ea_ := Option.some.inj (hx287_0.symm.trans hx288_0)
                                injection ea_ with ea_ en_ ec_
                                subst ea_
                                subst ec_
                                clear en_
                                have p289 : 0 ≤ (x3_1 : Int) := of_decide_eq_true (by first | (with_reducible assumption) | assumption)
                                have q289 : x3_1 < ((rd_L2 l0 x4_2).length : Int) := of_decide_eq_true (by first | (with_reducible assumption) | assumption)
                                obtain ⟨ad289, e289, hx289_0⟩ := Kd.at_string HR288_0.out x3_1 p289 q289
                                cases e289
                                replace p289 := eq_true p289
                                replace q289 := eq_true q289
                                have p290 : 0 ≤ (0 : Int) := (by omega)
                                have q290 : 0 < (l0.length : Int) := of_decide_eq_true (by first | (with_reducible assumption) | assumption)
                                obtain ⟨ad290, A290_0, c290_0, e290, hx290_0, hl290_0, hi290_0⟩ := at_L2 HR0.out 0 p290 q290
                                obtain rfl : ad286 = ad290 := (by injection e290)
                                have qi290 : (0 < l0.length) = True := eq_true (by omega)
                                (try rw [show ((0 : Int)).toNat = 0 from rfl] at hx290_0)
                                (try rw [Addr.add_zero'] at hx290_0)
                                have HR290_0 := Aside0.mk hi290_0
                                have HC290_0 := Aside0.mk hl290_0
                                clear hi290_0 hl290_0
                                replace p290 := eq_true p290
                                replace q290 := eq_true q290
                                have p291 : 0 ≤ (x3_1 : Int) := of_decide_eq_true (by first | (with_reducible assumption) | assumption)
                                have q291 : x3_1 < ((rd_L2 l0 0).length : Int) := of_decide_eq_true (by first | (with_reducible assumption) | assumption)
                                obtain ⟨ad291, e291, hx291_0⟩ := Kd.at_string HR290_0.out x3_1 p291 q291
                                cases e291
                                replace p291 := eq_true p291
                                replace q291 := eq_true q291
                                go_wp2
                                repeat (go_quiet (fail); try go_wp2)
                                go_ret
                                exact ⟨by first | rfl | (simp; done) | (simp [*]; done), by repeat (first | exact Drawn0.refl _ | apply Drawn0.step)⟩
                            · rw [if_neg c11] at H
                              exact absurd H (by simp)
                          · rw [if_neg c10] at H
                            exact absurd H (by simp)
                        · rw [if_neg c9] at H
                          exact absurd H (by simp)
                      · rw [if_neg c8] at H
                        exact absurd H (by simp)
                  · rw [if_neg c6] at H
                    exact absurd H (by simp)
                · rw [if_neg c5] at H
                  have c5b0 : decide (x4_2 < (l0.length : Int)) = false := decide_eq_false c5
                  clear c5
                  have H' := Aside0.mk H
                  clear H
                  go_wp2
                  repeat (go_quiet (fail); try go_wp2)
                  go_roundg k2
                  case measure => have := HK1.out; have := HK2.out; omega
                  case rel => exact ⟨(wrap64 (x3_1 + 1)), (by first | rfl | (simp; done) | (simp [*]; done)), H', ⟨by have := HK1.out; have := HK2.out; omega⟩, by repeat (first | exact Drawn0.refl _ | apply Drawn0.step)⟩
          · rw [if_neg c4] at H
            have c4b0 : decide (x3_1 < ((rd_L2 l0 0).length : Int)) = false := decide_eq_false c4
            clear c4
            obtain rfl := Option.some.inj H
            have p286 : 0 ≤ (0 : Int) := (by omega)
            have q286 : 0 < (l0.length : Int) := of_decide_eq_true (by first | (with_reducible assumption) | assumption)
            obtain ⟨ad286, A286_0, c286_0, e286, hx286_0, hl286_0, hi286_0⟩ := at_L2 HR0.out 0 p286 q286
            cases e286
            have qi286 : (0 < l0.length) = True := eq_true (by omega)
            (try rw [show ((0 : Int)).toNat = 0 from rfl] at hx286_0)
            (try rw [Addr.add_zero'] at hx286_0)
            have HR286_0 := Aside0.mk hi286_0
            have HC286_0 := Aside0.mk hl286_0
            clear hi286_0 hl286_0
            replace p286 := eq_true p286
            replace q286 := eq_true q286
            go_wp2
            repeat (go_quiet (fail); try go_wp2)
            go_ret
            exact ⟨by first | rfl | (simp; done) | (simp [*]; done), by repeat (first | exact Drawn0.refl _ | apply Drawn0.step)⟩
        · rw [if_neg c3] at H
          exact absurd H (by simp)

/-! ### watchmanlaw23_smudge: function 30 -/
def watchmanlaw23_smudge.l0 : Nat → List ByteArray → Int → Option (List ByteArray)
  | 0, _, _ => none
  | k + 1, x0, x2 => if x2 < (x0.length : Int) then (if 0 ≤ x2 then (watchmanlaw23_smudge.l0 k (x0.set (x2 : Int).toNat (⟨#[115, 109, 117, 100, 103, 101]⟩ : ByteArray)) (wrap64 (x2 + 1))) else (none)) else (some x0)
def watchmanlaw23_smudge.f (k : Nat) (l0 : List ByteArray) : Option (List ByteArray) := watchmanlaw23_smudge.l0 k l0 0
theorem watchmanlaw23_smudge.mono_l : ∀ k, (∀ y0 y1, LeO (watchmanlaw23_smudge.l0 k y0 y1) (watchmanlaw23_smudge.l0 (k + 1) y0 y1))
  | 0 => fun _ _ r h => by simp [watchmanlaw23_smudge.l0] at h
  | k + 1 => by
    have ih0 := watchmanlaw23_smudge.mono_l k
    · intro y0 y1
      unfold watchmanlaw23_smudge.l0
      repeat' first
      | (with_reducible exact ih0 _ _)
      | (with_reducible exact LeO.refl _)
      | (with_reducible exact LeO.none _)
      | (with_reducible refine LeO.ite ?_ ?_)
      | (with_reducible refine LeO.bind ?_ (fun _ => ?_))
      | exact ih0 _ _
      | exact LeO.none _
      | refine LeO.ite ?_ ?_
      | refine LeO.bind ?_ (fun _ => ?_)
theorem watchmanlaw23_smudge.mono : ∀ a0 k, LeO (watchmanlaw23_smudge.f k a0) (watchmanlaw23_smudge.f (k + 1) a0) := by
  intro a0 k
  have ih0 := watchmanlaw23_smudge.mono_l k
  unfold watchmanlaw23_smudge.f
  repeat' first
      | (with_reducible exact ih0 _ _)
      | (with_reducible exact LeO.refl _)
      | (with_reducible exact LeO.none _)
      | (with_reducible refine LeO.ite ?_ ?_)
      | (with_reducible refine LeO.bind ?_ (fun _ => ?_))
      | exact ih0 _ _
      | exact LeO.none _
      | refine LeO.ite ?_ ?_
      | refine LeO.bind ?_ (fun _ => ?_)
set_option maxHeartbeats 8000000 in
set_option maxRecDepth 100000 in
theorem watchmanlaw23_smudge.calls (k : Nat) (P0_ : Nat → Prop) (u9000_ : Value) (l0 : List ByteArray) (r : List ByteArray) (w0 w : World) (hB : Below w0.heap.size w0 w) (ho0 : Kd.R Kd.string 9 w w0.heap.size P0_ u9000_ l0) (h : watchmanlaw23_smudge.f k l0 = some r) :
    Calls Try.prog 30 #[u9000_] w fun e w' => e = .returned (.tuple #[]) ∧ Kd.R Kd.string 9 w' w0.heap.size (fun k_ => (P0_ k_ ∨ w.heap.size ≤ k_)) u9000_ r ∧ Below w0.heap.size w0 w' ∧ Kept w w' (fun k_ => P0_ k_) := by
  have HO0 := Aside0.mk (show Kd.R Kd.string 9 w w0.heap.size (fun k_ => (P0_ k_ ∨ w.heap.size ≤ k_)) u9000_ l0 from Kd.R_mono ho0 (fun k_ hk => (.inl hk)))
  have HK := Aside0.mk (Kept.refl w (fun k_ => P0_ k_))
  have HW0 := Aside0.mk hB.size
  have HB := Aside0.mk hB
  clear hB
  have H : (watchmanlaw23_smudge.l0 k l0 0) = some r := h
  clear h
  have H' := Aside0.mk H
  clear H
  go_enter Try.func30, Try.ntmps30
  go_wp2
  go_loopg [2] k (fun kq v2 w' => ∃ (x0_1 : List ByteArray) (x2_1 : Int), v2 = .int .i64 x2_1 ∧ Aside0 (watchmanlaw23_smudge.l0 kq x0_1 x2_1 = some r) ∧ Aside0 (kq ≤ k) ∧ Aside0 (Kd.R Kd.string 9 w' w0.heap.size (fun k_ => (P0_ k_ ∨ w.heap.size ≤ k_)) u9000_ x0_1) ∧ Aside0 (Kept w w' (fun k_ => P0_ k_)) ∧ Aside0 (Below w0.heap.size w0 w'))
  case atStart => exact ⟨(l0), (0), (by first | rfl | (simp; done) | (simp [*]; done)), H', ⟨Nat.le_refl _⟩, ⟨by (with_reducible repeat (first | apply Kd.R_alloc | apply Kd.R_drewN | apply Kd.R_drew)); exact HO0.out⟩, ⟨by repeat (first | (with_reducible first | exact HK.out | apply Kept.alloc | apply Kept.drewN | apply Kept.drew) | exact HK.out)⟩, ⟨by repeat (with_reducible first | exact HB.out | apply pw_below_drewN | apply below_drew1)⟩⟩
  case round =>
    clear H'
    obtain ⟨x0_1, x2_1, rfl, HA, HK1, HO_0, HK, HB⟩ := hrel
    cases gk with
    | zero => exact absurd HA.out (by simp [watchmanlaw23_smudge.l0])
    | succ k1 =>
      have H := HA.out
      clear HA
      simp only [watchmanlaw23_smudge.l0] at H
      by_cases c2 : x2_1 < (x0_1.length : Int)
      · rw [if_pos c2] at H
        have c2b0 : decide (x2_1 < (x0_1.length : Int)) = true := decide_eq_true c2
        clear c2
        by_cases c3 : 0 ≤ x2_1
        · rw [if_pos c3] at H
          have c3b0 : decide (0 ≤ x2_1) = true := decide_eq_true c3
          clear c3
          obtain ⟨y292, hy292⟩ : ∃ y_ : List ByteArray, y_ = (x0_1.set (x2_1 : Int).toNat (⟨#[115, 109, 117, 100, 103, 101]⟩ : ByteArray)) := ⟨_, rfl⟩
          replace H : (watchmanlaw23_smudge.l0 k1 y292 (wrap64 (x2_1 + 1))) = some r := by first | (rw [hy292]; with_reducible exact H) | (have H2_ := (Option.bind_some _ _).symm.trans H; rw [hy292]; with_reducible exact H2_) | (have H2_ := (Option.bind_some _ _).symm.trans H; with_reducible exact H2_) | with_reducible exact H | (rw [hy292]; exact H) | exact H
          have Ny292 := Aside0.mk hy292
          clear hy292
          have H' := Aside0.mk H
          clear H
          obtain ⟨Ao5, co5, eo5⟩ := Kd.R_slice HO_0.out
          subst eo5
          have p4 : 0 ≤ (x2_1 : Int) := of_decide_eq_true (by first | (with_reducible assumption) | assumption)
          have q4 : (x2_1 : Int) < ((x0_1.length : Int) : Int) := of_decide_eq_true (by first | (with_reducible assumption) | assumption)
          obtain ⟨go4, co4, eo4, gb4, gl4, cl4, HG4⟩ := Kd.R_form HO_0.out (by omega)
          (first | cases eo4 | (injection eo4 with ea_ en_ ec_; (first | subst ea_ | (injection ea_ with ea_; subst ea_)); subst ec_; clear en_))
          have GB4 := Aside0.mk gb4
          have GG4 := Aside0.mk HG4
          clear gb4 gl4 HG4
          have HMgo4 := Aside0.mk (show (P0_ go4 ∨ w.heap.size ≤ go4) from (HO_0.out.1 _ rfl))
          obtain ⟨hx4_0, hf4_0⟩ := Kd.R_celln (⟨#[]⟩ : ByteArray) HO_0.out (x2_1 : Int) p4 q4
          replace p4 := eq_true p4
          replace q4 := eq_true q4
          have HP6 := Kd.R_putg HO_0.out (x2_1 : Int) (⟨#[115, 109, 117, 100, 103, 101]⟩ : ByteArray)
          go_wp2_with (first | ((with_reducible refine gate_store (t := 9) (p := 11) rfl ?_); refine store_event (t := 9) (p := 11) (v := ?vo_w7) (w1 := (wr.setCell ⟨go4, (x2_1 : Int).toNat, none⟩ (.string (⟨#[115, 109, 117, 100, 103, 101]⟩ : ByteArray)))) ?hg ?ho ?hn ?hr ?_; (case ho => rfl); (case hg => rfl); (case hn => rfl); (case hr => first | (go_simp; done) | (go_simp; rfl)); intro w7 hw; have hg : wr.grownBy w7 (some go4) := (by rw [hw]; exact HP6.2); have hp_ : Kd.R Kd.string 9 w7 w0.heap.size (fun k_ => (P0_ k_ ∨ w.heap.size ≤ k_)) (.slice (some ⟨go4, 0, none⟩) x0_1.length co5) y292 := (by rw [hw, Ny292.out]; exact HP6.1); clear HP6; replace HB := Aside0.mk ((by rw [hw]; exact below_set (HB.out) GB4.out : Below w0.heap.size w0 w7)); replace HK := Aside0.mk (Kept.of_grown (S := (fun k_ => P0_ k_)) hg (by repeat (first | (with_reducible first | exact HK.out | apply Kept.alloc | apply Kept.drewN | apply Kept.drew) | exact HK.out)) (fun k_ e_ => (HO_0.out.1 k_ e_))); replace HO_0 := Aside0.mk (hp_); clear hg hw hp_))
          go_roundg k1
          case measure => have := HK1.out; omega
          case rel => exact ⟨(y292), (wrap64 (x2_1 + 1)), (by first | rfl | (simp; done) | (simp [*]; done)), H', ⟨by have := HK1.out; omega⟩, ⟨by (with_reducible repeat (first | apply Kd.R_alloc | apply Kd.R_drewN | apply Kd.R_drew)); exact HO_0.out⟩, ⟨by repeat (first | (with_reducible first | exact HK.out | apply Kept.alloc | apply Kept.drewN | apply Kept.drew) | exact HK.out)⟩, ⟨by repeat (with_reducible first | exact HB.out | apply pw_below_drewN | apply below_drew1)⟩⟩
        · rw [if_neg c3] at H
          exact absurd H (by simp)
      · rw [if_neg c2] at H
        have c2b0 : decide (x2_1 < (x0_1.length : Int)) = false := decide_eq_false c2
        clear c2
        obtain rfl := Option.some.inj H
        obtain ⟨Ao8, co8, eo8⟩ := Kd.R_slice HO_0.out
        subst eo8
        go_wp2
        first | go_end0 | ((try simp only [Exit.inBlock, Exit.then]); refine bodyPost_ret (results_none rfl _ _ _) rfl ?_)
        exact ⟨by first | rfl | (simp [errW_none, errW_some] <;> rfl) | (simp [*, errW_none, errW_some] <;> rfl), by (with_reducible repeat (first | apply Kd.R_alloc | apply Kd.R_drewN | apply Kd.R_drew)); exact HO_0.out, by repeat (with_reducible first | exact HB.out | apply pw_below_drewN | apply below_drew1), by repeat (first | (with_reducible first | exact HK.out | apply Kept.alloc | apply Kept.drewN | apply Kept.drew) | exact HK.out)⟩

end Go.Proofs.Ytncoccpgdgdknaa.F
