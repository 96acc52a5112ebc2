-- Written by a program of this session (xprint.py), out of the translation and of contracts proved by hand.
import Derived.Test.YtkhdpmbjjcmooaaF0
namespace Go.Proofs.Ytkhdpmbjjcmooaa.F
open Go.RowKit Go.Proofs.YtkhdpmbjjcmooaaV.PrintWords Go.Proofs.YtkhdpmbjjcmooaaV.PrintLast Go.Proofs.YtkhdpmbjjcmooaaV.PrintMore
attribute [local go_sem] max2_int min2_int max_two min_two max_three min_three max_four min_four   -- for this text's walks alone
set_option linter.unusedVariables false
set_option linter.unusedSimpArgs false

/-! ### watchmanref18_Oldest: function 24 -/
def watchmanref18_Oldest.l0 : Nat → List (S39) → Int → Int → Option (Int × Bool)
  | 0, _, _, _ => none
  | k + 1, x0, x4, x5 => if x5 < (x0.length : Int) then (if x4 < 0 then (watchmanref18_Oldest.l0 k x0 x5 (wrap64 (x5 + 1))) else (if 0 ≤ x5 then (if 0 ≤ x4 then (if x4 < (x0.length : Int) then (if ((rd_T39 x0 x5).f2) < ((rd_T39 x0 x4).f2) then (watchmanref18_Oldest.l0 k x0 x5 (wrap64 (x5 + 1))) else (if ((rd_T39 x0 x5).f2) = ((rd_T39 x0 x4).f2) then (if ((rd_T39 x0 x5).f0) < ((rd_T39 x0 x4).f0) then (watchmanref18_Oldest.l0 k x0 x5 (wrap64 (x5 + 1))) else (watchmanref18_Oldest.l0 k x0 x4 (wrap64 (x5 + 1)))) else (watchmanref18_Oldest.l0 k x0 x4 (wrap64 (x5 + 1))))) else (none)) else (none)) else (none))) else (if x4 < 0 then (some (0, false)) else (if 0 ≤ x4 then (if x4 < (x0.length : Int) then (some ((rd_T39 x0 x4).f0, true)) else (none)) else (none)))
def watchmanref18_Oldest.f (k : Nat) (l0 : List (S39)) : Option (Int × Bool) := watchmanref18_Oldest.l0 k l0 (-1) 0
theorem watchmanref18_Oldest.mono_l : ∀ k, (∀ y0 y1 y2, LeO (watchmanref18_Oldest.l0 k y0 y1 y2) (watchmanref18_Oldest.l0 (k + 1) y0 y1 y2))
  | 0 => fun _ _ _ r h => by simp [watchmanref18_Oldest.l0] at h
  | k + 1 => by
    have ih0 := watchmanref18_Oldest.mono_l k
    · intro y0 y1 y2
      unfold watchmanref18_Oldest.l0
      repeat' first
      | (with_reducible exact ih0 _ _ _)
      | (with_reducible exact LeO.refl _)
      | (with_reducible exact LeO.none _)
      | (with_reducible refine LeO.ite ?_ ?_)
      | (with_reducible refine LeO.bind ?_ (fun _ => ?_))
      | exact ih0 _ _ _
      | exact LeO.none _
      | refine LeO.ite ?_ ?_
      | refine LeO.bind ?_ (fun _ => ?_)
theorem watchmanref18_Oldest.mono : ∀ a0 k, LeO (watchmanref18_Oldest.f k a0) (watchmanref18_Oldest.f (k + 1) a0) := by
  intro a0 k
  have ih0 := watchmanref18_Oldest.mono_l k
  unfold watchmanref18_Oldest.f
  repeat' first
      | (with_reducible exact ih0 _ _ _)
      | (with_reducible exact LeO.refl _)
      | (with_reducible exact LeO.none _)
      | (with_reducible refine LeO.ite ?_ ?_)
      | (with_reducible refine LeO.bind ?_ (fun _ => ?_))
      | exact ih0 _ _ _
      | exact LeO.none _
      | refine LeO.ite ?_ ?_
      | refine LeO.bind ?_ (fun _ => ?_)
set_option maxHeartbeats 8000000 in
set_option maxRecDepth 100000 in
theorem watchmanref18_Oldest.calls (k : Nat) (A0 : Option Addr) (c0 : Nat) (l0 : List (S39)) (r1 : Int) (r2 : Bool) (w : World) (hr0 : Kd.C k39 w A0 l0.length l0) (hc0 : l0.length ≤ c0) (h : watchmanref18_Oldest.f k l0 = some (r1, r2)) :
    Calls Try.prog 24 #[.slice A0 l0.length c0] w fun e w' => e = .returned (.tuple #[.int .i64 r1, .bool r2]) ∧ Drawn0 w w' := by
  have HR0 := Aside0.mk hr0
  have HC0 := Aside0.mk hc0
  clear hr0 hc0
  have H : (watchmanref18_Oldest.l0 k l0 (-1) 0) = some (r1, r2) := h
  clear h
  have H' := Aside0.mk H
  clear H
  go_enter Try.func24, Try.ntmps24
  go_wp2
  repeat (go_quiet (fail); try go_wp2)
  go_loopg [4, 5] k (fun kq v4 v5 w' => ∃ (x4_1 : Int) (x5_1 : Int), v4 = .int .i64 x4_1 ∧ v5 = .int .i64 x5_1 ∧ Aside0 (watchmanref18_Oldest.l0 kq l0 x4_1 x5_1 = some (r1, r2)) ∧ Aside0 (kq ≤ k) ∧ Drawn0 w w')
  case atStart => exact ⟨((-1)), (0), (by first | rfl | (simp; done) | (simp [*]; done)), (by first | rfl | (simp; done) | (simp [*]; done)), H', ⟨Nat.le_refl _⟩, by repeat (first | exact Drawn0.refl _ | apply Drawn0.step)⟩
  case round =>
    clear H'
    obtain ⟨x4_1, x5_1, rfl, rfl, HA, HK1, ⟨m1, rfl⟩⟩ := hrel
    cases gk with
    | zero => exact absurd HA.out (by simp [watchmanref18_Oldest.l0])
    | succ k1 =>
      have H := HA.out
      clear HA
      simp only [watchmanref18_Oldest.l0] at H
      by_cases c2 : x5_1 < (l0.length : Int)
      · rw [if_pos c2] at H
        have c2b0 : decide (x5_1 < (l0.length : Int)) = true := decide_eq_true c2
        clear c2
        by_cases c3 : x4_1 < 0
        · rw [if_pos c3] at H
          have c3b0 : decide (x4_1 < 0) = true := decide_eq_true c3
          clear c3
          have H' := Aside0.mk H
          clear H
          go_wp2
          repeat (go_quiet (fail); try go_wp2)
          go_roundg k1
          case measure => have := HK1.out; omega
          case rel => exact ⟨(x5_1), (wrap64 (x5_1 + 1)), (by first | rfl | (simp; done) | (simp [*]; done)), (by first | rfl | (simp; done) | (simp [*]; done)), H', ⟨by have := HK1.out; omega⟩, by repeat (first | exact Drawn0.refl _ | apply Drawn0.step)⟩
        · rw [if_neg c3] at H
          have c3b0 : decide (x4_1 < 0) = false := decide_eq_false c3
          clear c3
          by_cases c4 : 0 ≤ x5_1
          · rw [if_pos c4] at H
            have c4b0 : decide (0 ≤ x5_1) = true := decide_eq_true c4
            clear c4
            by_cases c5 : 0 ≤ x4_1
            · rw [if_pos c5] at H
              have c5b0 : decide (0 ≤ x4_1) = true := decide_eq_true c5
              clear c5
              by_cases c6 : x4_1 < (l0.length : Int)
              · rw [if_pos c6] at H
                have c6b0 : decide (x4_1 < (l0.length : Int)) = true := decide_eq_true c6
                clear c6
                by_cases c7 : ((rd_T39 l0 x5_1).f2) < ((rd_T39 l0 x4_1).f2)
                · rw [if_pos c7] at H
                  have c7b0 : decide (((rd_T39 l0 x5_1).f2) < ((rd_T39 l0 x4_1).f2)) = true := decide_eq_true c7
                  clear c7
                  have H' := Aside0.mk H
                  clear H
                  have p211 : 0 ≤ (x5_1 : Int) := of_decide_eq_true (by first | (with_reducible assumption) | assumption)
                  have q211 : x5_1 < (l0.length : Int) := of_decide_eq_true (by first | (with_reducible assumption) | assumption)
                  obtain ⟨ad211, A211_5, c211_5, e211, hx211_0, hx211_1, hx211_2, hx211_3, hx211_4, hx211_5, hl211_5, hi211_5⟩ := at_T39 HR0.out x5_1 p211 q211
                  cases e211
                  have HR211_5 := Aside0.mk hi211_5
                  have HC211_5 := Aside0.mk hl211_5
                  clear hi211_5 hl211_5
                  replace p211 := eq_true p211
                  replace q211 := eq_true q211
                  have p212 : 0 ≤ (x4_1 : Int) := of_decide_eq_true (by first | (with_reducible assumption) | assumption)
                  have q212 : x4_1 < (l0.length : Int) := of_decide_eq_true (by first | (with_reducible assumption) | assumption)
                  obtain ⟨ad212, A212_5, c212_5, e212, hx212_0, hx212_1, hx212_2, hx212_3, hx212_4, hx212_5, hl212_5, hi212_5⟩ := at_T39 HR0.out x4_1 p212 q212
                  obtain rfl : ad211 = ad212 := (by injection e212)
                  have HR212_5 := Aside0.mk hi212_5
                  have HC212_5 := Aside0.mk hl212_5
                  clear hi212_5 hl212_5
                  replace p212 := eq_true p212
                  replace q212 := eq_true q212
                  go_wp2
                  repeat (go_quiet (fail); try go_wp2)
                  go_roundg k1
                  case measure => have := HK1.out; omega
                  case rel => exact ⟨(x5_1), (wrap64 (x5_1 + 1)), (by first | rfl | (simp; done) | (simp [*]; done)), (by first | rfl | (simp; done) | (simp [*]; done)), H', ⟨by have := HK1.out; omega⟩, by repeat (first | exact Drawn0.refl _ | apply Drawn0.step)⟩
                · rw [if_neg c7] at H
                  have c7b0 : decide (((rd_T39 l0 x5_1).f2) < ((rd_T39 l0 x4_1).f2)) = false := decide_eq_false c7
                  clear c7
                  by_cases c8 : ((rd_T39 l0 x5_1).f2) = ((rd_T39 l0 x4_1).f2)
                  · rw [if_pos c8] at H
                    have c8b0 : (((rd_T39 l0 x5_1).f2) == ((rd_T39 l0 x4_1).f2)) = true := beq_iff_eq.mpr c8
                    have c8b1 : (((rd_T39 l0 x5_1).f2) != ((rd_T39 l0 x4_1).f2)) = false := bne_eq_false_iff_eq.mpr c8
                    clear c8
                    by_cases c9 : ((rd_T39 l0 x5_1).f0) < ((rd_T39 l0 x4_1).f0)
                    · rw [if_pos c9] at H
                      have c9b0 : decide (((rd_T39 l0 x5_1).f0) < ((rd_T39 l0 x4_1).f0)) = true := decide_eq_true c9
                      clear c9
                      have H' := Aside0.mk H
                      clear H
                      have p211 : 0 ≤ (x5_1 : Int) := of_decide_eq_true (by first | (with_reducible assumption) | assumption)
                      have q211 : x5_1 < (l0.length : Int) := of_decide_eq_true (by first | (with_reducible assumption) | assumption)
                      obtain ⟨ad211, A211_5, c211_5, e211, hx211_0, hx211_1, hx211_2, hx211_3, hx211_4, hx211_5, hl211_5, hi211_5⟩ := at_T39 HR0.out x5_1 p211 q211
                      cases e211
                      have HR211_5 := Aside0.mk hi211_5
                      have HC211_5 := Aside0.mk hl211_5
                      clear hi211_5 hl211_5
                      replace p211 := eq_true p211
                      replace q211 := eq_true q211
                      have p212 : 0 ≤ (x4_1 : Int) := of_decide_eq_true (by first | (with_reducible assumption) | assumption)
                      have q212 : x4_1 < (l0.length : Int) := of_decide_eq_true (by first | (with_reducible assumption) | assumption)
                      obtain ⟨ad212, A212_5, c212_5, e212, hx212_0, hx212_1, hx212_2, hx212_3, hx212_4, hx212_5, hl212_5, hi212_5⟩ := at_T39 HR0.out x4_1 p212 q212
                      obtain rfl : ad211 = ad212 := (by injection e212)
                      have HR212_5 := Aside0.mk hi212_5
                      have HC212_5 := Aside0.mk hl212_5
                      clear hi212_5 hl212_5
                      replace p212 := eq_true p212
                      replace q212 := eq_true q212
                      have p213 : 0 ≤ (x5_1 : Int) := of_decide_eq_true (by first | (with_reducible assumption) | assumption)
                      have q213 : x5_1 < (l0.length : Int) := of_decide_eq_true (by first | (with_reducible assumption) | assumption)
                      obtain ⟨ad213, A213_5, c213_5, e213, hx213_0, hx213_1, hx213_2, hx213_3, hx213_4, hx213_5, hl213_5, hi213_5⟩ := at_T39 HR0.out x5_1 p213 q213
                      obtain rfl : ad211 = ad213 := (by injection e213)
                      have HR213_5 := Aside0.mk hi213_5
                      have HC213_5 := Aside0.mk hl213_5
                      clear hi213_5 hl213_5
                      replace p213 := eq_true p213
                      replace q213 := eq_true q213
                      have ea_ := Option.some.inj (hx211_5.symm.trans hx213_5)
                      injection ea_ with ea_ en_ ec_
                      subst ea_
                      subst ec_
                      clear en_
                      have p214 : 0 ≤ (x4_1 : Int) := of_decide_eq_true (by first | (with_reducible assumption) | assumption)
                      have q214 : x4_1 < (l0.length : Int) := of_decide_eq_true (by first | (with_reducible assumption) | assumption)
                      obtain ⟨ad214, A214_5, c214_5, e214, hx214_0, hx214_1, hx214_2, hx214_3, hx214_4, hx214_5, hl214_5, hi214_5⟩ := at_T39 HR0.out x4_1 p214 q214
                      obtain rfl : ad211 = ad214 := (by injection e214)
                      have HR214_5 := Aside0.mk hi214_5
                      have HC214_5 := Aside0.mk hl214_5
                      clear hi214_5 hl214_5
                      replace p214 := eq_true p214
                      replace q214 := eq_true q214
                      have ea_ := Option.some.inj (hx212_5.symm.trans hx214_5)
                      injection ea_ with ea_ en_ ec_
                      subst ea_
                      subst ec_
                      clear en_
                      have p215 : 0 ≤ (x5_1 : Int) := of_decide_eq_true (by first | (with_reducible assumption) | assumption)
                      have q215 : x5_1 < (l0.length : Int) := of_decide_eq_true (by first | (with_reducible assumption) | assumption)
                      obtain ⟨ad215, A215_5, c215_5, e215, hx215_0, hx215_1, hx215_2, hx215_3, hx215_4, hx215_5, hl215_5, hi215_5⟩ := at_T39 HR0.out x5_1 p215 q215
                      obtain rfl : ad211 = ad215 := (by injection e215)
                      have HR215_5 := Aside0.mk hi215_5
                      have HC215_5 := Aside0.mk hl215_5
                      clear hi215_5 hl215_5
                      replace p215 := eq_true p215
                      replace q215 := eq_true q215
                      have ea_ := Option.some.inj (hx211_5.symm.trans hx215_5)
                      injection ea_ with ea_ en_ ec_
                      subst ea_
                      subst ec_
                      clear en_
                      have p216 : 0 ≤ (x4_1 : Int) := of_decide_eq_true (by first | (with_reducible assumption) | assumption)
                      have q216 : x4_1 < (l0.length : Int) := of_decide_eq_true (by first | (with_reducible assumption) | assumption)
                      obtain ⟨ad216, A216_5, c216_5, e216, hx216_0, hx216_1, hx216_2, hx216_3, hx216_4, hx216_5, hl216_5, hi216_5⟩ := at_T39 HR0.out x4_1 p216 q216
                      obtain rfl : ad211 = ad216 := (by injection e216)
                      have HR216_5 := Aside0.mk hi216_5
                      have HC216_5 := Aside0.mk hl216_5
                      clear hi216_5 hl216_5
                      replace p216 := eq_true p216
                      replace q216 := eq_true q216
                      have ea_ := Option.some.inj (hx212_5.symm.trans hx216_5)
                      injection ea_ with ea_ en_ ec_
                      subst ea_
                      subst ec_
                      clear en_
                      go_wp2
                      repeat (go_quiet (fail); try go_wp2)
                      go_roundg k1
                      case measure => have := HK1.out; omega
                      case rel => exact ⟨(x5_1), (wrap64 (x5_1 + 1)), (by first | rfl | (simp; done) | (simp [*]; done)), (by first | rfl | (simp; done) | (simp [*]; done)), H', ⟨by have := HK1.out; omega⟩, by repeat (first | exact Drawn0.refl _ | apply Drawn0.step)⟩
                    · rw [if_neg c9] at H
                      have c9b0 : decide (((rd_T39 l0 x5_1).f0) < ((rd_T39 l0 x4_1).f0)) = false := decide_eq_false c9
                      clear c9
                      have H' := Aside0.mk H
                      clear H
                      have p211 : 0 ≤ (x5_1 : Int) := of_decide_eq_true (by first | (with_reducible assumption) | assumption)
                      have q211 : x5_1 < (l0.length : Int) := of_decide_eq_true (by first | (with_reducible assumption) | assumption)
                      obtain ⟨ad211, A211_5, c211_5, e211, hx211_0, hx211_1, hx211_2, hx211_3, hx211_4, hx211_5, hl211_5, hi211_5⟩ := at_T39 HR0.out x5_1 p211 q211
                      cases e211
                      have HR211_5 := Aside0.mk hi211_5
                      have HC211_5 := Aside0.mk hl211_5
                      clear hi211_5 hl211_5
                      replace p211 := eq_true p211
                      replace q211 := eq_true q211
                      have p212 : 0 ≤ (x4_1 : Int) := of_decide_eq_true (by first | (with_reducible assumption) | assumption)
                      have q212 : x4_1 < (l0.length : Int) := of_decide_eq_true (by first | (with_reducible assumption) | assumption)
                      obtain ⟨ad212, A212_5, c212_5, e212, hx212_0, hx212_1, hx212_2, hx212_3, hx212_4, hx212_5, hl212_5, hi212_5⟩ := at_T39 HR0.out x4_1 p212 q212
                      obtain rfl : ad211 = ad212 := (by injection e212)
                      have HR212_5 := Aside0.mk hi212_5
                      have HC212_5 := Aside0.mk hl212_5
                      clear hi212_5 hl212_5
                      replace p212 := eq_true p212
                      replace q212 := eq_true q212
                      have p213 : 0 ≤ (x5_1 : Int) := of_decide_eq_true (by first | (with_reducible assumption) | assumption)
                      have q213 : x5_1 < (l0.length : Int) := of_decide_eq_true (by first | (with_reducible assumption) | assumption)
                      obtain ⟨ad213, A213_5, c213_5, e213, hx213_0, hx213_1, hx213_2, hx213_3, hx213_4, hx213_5, hl213_5, hi213_5⟩ := at_T39 HR0.out x5_1 p213 q213
                      obtain rfl : ad211 = ad213 := (by injection e213)
                      have HR213_5 := Aside0.mk hi213_5
                      have HC213_5 := Aside0.mk hl213_5
                      clear hi213_5 hl213_5
                      replace p213 := eq_true p213
                      replace q213 := eq_true q213
                      have ea_ := Option.some.inj (hx211_5.symm.trans hx213_5)
                      injection ea_ with ea_ en_ ec_
                      subst ea_
                      subst ec_
                      clear en_
                      have p214 : 0 ≤ (x4_1 : Int) := of_decide_eq_true (by first | (with_reducible assumption) | assumption)
                      have q214 : x4_1 < (l0.length : Int) := of_decide_eq_true (by first | (with_reducible assumption) | assumption)
                      obtain ⟨ad214, A214_5, c214_5, e214, hx214_0, hx214_1, hx214_2, hx214_3, hx214_4, hx214_5, hl214_5, hi214_5⟩ := at_T39 HR0.out x4_1 p214 q214
                      obtain rfl : ad211 = ad214 := (by injection e214)
                      have HR214_5 := Aside0.mk hi214_5
                      have HC214_5 := Aside0.mk hl214_5
                      clear hi214_5 hl214_5
                      replace p214 := eq_true p214
                      replace q214 := eq_true q214
                      have ea_ := Option.some.inj (hx212_5.symm.trans hx214_5)
                      injection ea_ with ea_ en_ ec_
                      subst ea_
                      subst ec_
                      clear en_
                      have p215 : 0 ≤ (x5_1 : Int) := of_decide_eq_true (by first | (with_reducible assumption) | assumption)
                      have q215 : x5_1 < (l0.length : Int) := of_decide_eq_true (by first | (with_reducible assumption) | assumption)
                      obtain ⟨ad215, A215_5, c215_5, e215, hx215_0, hx215_1, hx215_2, hx215_3, hx215_4, hx215_5, hl215_5, hi215_5⟩ := at_T39 HR0.out x5_1 p215 q215
                      obtain rfl : ad211 = ad215 := (by injection e215)
                      have HR215_5 := Aside0.mk hi215_5
                      have HC215_5 := Aside0.mk hl215_5
                      clear hi215_5 hl215_5
                      replace p215 := eq_true p215
                      replace q215 := eq_true q215
                      have ea_ := Option.some.inj (hx211_5.symm.trans hx215_5)
                      injection ea_ with ea_ en_ ec_
                      subst ea_
                      subst ec_
                      clear en_
                      have p216 : 0 ≤ (x4_1 : Int) := of_decide_eq_true (by first | (with_reducible assumption) | assumption)
                      have q216 : x4_1 < (l0.length : Int) := of_decide_eq_true (by first | (with_reducible assumption) | assumption)
                      obtain ⟨ad216, A216_5, c216_5, e216, hx216_0, hx216_1, hx216_2, hx216_3, hx216_4, hx216_5, hl216_5, hi216_5⟩ := at_T39 HR0.out x4_1 p216 q216
                      obtain rfl : ad211 = ad216 := (by injection e216)
                      have HR216_5 := Aside0.mk hi216_5
                      have HC216_5 := Aside0.mk hl216_5
                      clear hi216_5 hl216_5
                      replace p216 := eq_true p216
                      replace q216 := eq_true q216
                      have ea_ := Option.some.inj (hx212_5.symm.trans hx216_5)
                      injection ea_ with ea_ en_ ec_
                      subst ea_
                      subst ec_
                      clear en_
                      go_wp2
                      repeat (go_quiet (fail); try go_wp2)
                      go_roundg k1
                      case measure => have := HK1.out; omega
                      case rel => exact ⟨(x4_1), (wrap64 (x5_1 + 1)), (by first | rfl | (simp; done) | (simp [*]; done)), (by first | rfl | (simp; done) | (simp [*]; done)), H', ⟨by have := HK1.out; omega⟩, by repeat (first | exact Drawn0.refl _ | apply Drawn0.step)⟩
                  · rw [if_neg c8] at H
                    have c8b0 : (((rd_T39 l0 x5_1).f2) == ((rd_T39 l0 x4_1).f2)) = false := beq_eq_false_iff_ne.mpr c8
                    have c8b1 : (((rd_T39 l0 x5_1).f2) != ((rd_T39 l0 x4_1).f2)) = true := bne_iff_ne.mpr c8
                    have H' := Aside0.mk H
                    clear H
                    have p211 : 0 ≤ (x5_1 : Int) := of_decide_eq_true (by first | (with_reducible assumption) | assumption)
                    have q211 : x5_1 < (l0.length : Int) := of_decide_eq_true (by first | (with_reducible assumption) | assumption)
                    obtain ⟨ad211, A211_5, c211_5, e211, hx211_0, hx211_1, hx211_2, hx211_3, hx211_4, hx211_5, hl211_5, hi211_5⟩ := at_T39 HR0.out x5_1 p211 q211
                    cases e211
                    have HR211_5 := Aside0.mk hi211_5
                    have HC211_5 := Aside0.mk hl211_5
                    clear hi211_5 hl211_5
                    replace p211 := eq_true p211
                    replace q211 := eq_true q211
                    have p212 : 0 ≤ (x4_1 : Int) := of_decide_eq_true (by first | (with_reducible assumption) | assumption)
                    have q212 : x4_1 < (l0.length : Int) := of_decide_eq_true (by first | (with_reducible assumption) | assumption)
                    obtain ⟨ad212, A212_5, c212_5, e212, hx212_0, hx212_1, hx212_2, hx212_3, hx212_4, hx212_5, hl212_5, hi212_5⟩ := at_T39 HR0.out x4_1 p212 q212
                    obtain rfl : ad211 = ad212 := (by injection e212)
                    have HR212_5 := Aside0.mk hi212_5
                    have HC212_5 := Aside0.mk hl212_5
                    clear hi212_5 hl212_5
                    replace p212 := eq_true p212
                    replace q212 := eq_true q212
                    have p213 : 0 ≤ (x5_1 : Int) := of_decide_eq_true (by first | (with_reducible assumption) | assumption)
                    have q213 : x5_1 < (l0.length : Int) := of_decide_eq_true (by first | (with_reducible assumption) | assumption)
                    obtain ⟨ad213, A213_5, c213_5, e213, hx213_0, hx213_1, hx213_2, hx213_3, hx213_4, hx213_5, hl213_5, hi213_5⟩ := at_T39 HR0.out x5_1 p213 q213
                    obtain rfl : ad211 = ad213 := (by injection e213)
                    have HR213_5 := Aside0.mk hi213_5
                    have HC213_5 := Aside0.mk hl213_5
                    clear hi213_5 hl213_5
                    replace p213 := eq_true p213
                    replace q213 := eq_true q213
                    have ea_ := Option.some.inj (hx211_5.symm.trans hx213_5)
                    injection ea_ with ea_ en_ ec_
                    subst ea_
                    subst ec_
                    clear en_
                    have p214 : 0 ≤ (x4_1 : Int) := of_decide_eq_true (by first | (with_reducible assumption) | assumption)
                    have q214 : x4_1 < (l0.length : Int) := of_decide_eq_true (by first | (with_reducible assumption) | assumption)
                    obtain ⟨ad214, A214_5, c214_5, e214, hx214_0, hx214_1, hx214_2, hx214_3, hx214_4, hx214_5, hl214_5, hi214_5⟩ := at_T39 HR0.out x4_1 p214 q214
                    obtain rfl : ad211 = ad214 := (by injection e214)
                    have HR214_5 := Aside0.mk hi214_5
                    have HC214_5 := Aside0.mk hl214_5
                    clear hi214_5 hl214_5
                    replace p214 := eq_true p214
                    replace q214 := eq_true q214
                    have ea_ := Option.some.inj (hx212_5.symm.trans hx214_5)
                    injection ea_ with ea_ en_ ec_
                    subst ea_
                    subst ec_
                    clear en_
                    go_wp2
                    repeat (go_quiet (fail); try go_wp2)
                    go_roundg k1
                    case measure => have := HK1.out; omega
                    case rel => exact ⟨(x4_1), (wrap64 (x5_1 + 1)), (by first | rfl | (simp; done) | (simp [*]; done)), (by first | rfl | (simp; done) | (simp [*]; done)), H', ⟨by have := HK1.out; omega⟩, by repeat (first | exact Drawn0.refl _ | apply Drawn0.step)⟩
              · rw [if_neg c6] at H
                exact absurd H (by simp)
            · rw [if_neg c5] at H
              exact absurd H (by simp)
          · rw [if_neg c4] at H
            exact absurd H (by simp)
      · rw [if_neg c2] at H
        have c2b0 : decide (x5_1 < (l0.length : Int)) = false := decide_eq_false c2
        clear c2
        by_cases c10 : x4_1 < 0
        · rw [if_pos c10] at H
          have c10b0 : decide (x4_1 < 0) = true := decide_eq_true c10
          clear c10
          simp only [Option.some.injEq, Prod.mk.injEq] at H
          obtain ⟨rfl, rfl⟩ := H
          go_wp2
          repeat (go_quiet (fail); try go_wp2)
          go_ret2
          exact ⟨by first | rfl | (simp; done) | (simp [*]; done), by repeat (first | exact Drawn0.refl _ | apply Drawn0.step)⟩
        · rw [if_neg c10] at H
          have c10b0 : decide (x4_1 < 0) = false := decide_eq_false c10
          clear c10
          by_cases c11 : 0 ≤ x4_1
          · rw [if_pos c11] at H
            have c11b0 : decide (0 ≤ x4_1) = true := decide_eq_true c11
            clear c11
            by_cases c12 : x4_1 < (l0.length : Int)
            · rw [if_pos c12] at H
              have c12b0 : decide (x4_1 < (l0.length : Int)) = true := decide_eq_true c12
              clear c12
              simp only [Option.some.injEq, Prod.mk.injEq] at H
              obtain ⟨rfl, rfl⟩ := H
              have p217 : 0 ≤ (x4_1 : Int) := of_decide_eq_true (by first | (with_reducible assumption) | assumption)
              have q217 : x4_1 < (l0.length : Int) := of_decide_eq_true (by first | (with_reducible assumption) | assumption)
              obtain ⟨ad217, A217_5, c217_5, e217, hx217_0, hx217_1, hx217_2, hx217_3, hx217_4, hx217_5, hl217_5, hi217_5⟩ := at_T39 HR0.out x4_1 p217 q217
              cases e217
              have HR217_5 := Aside0.mk hi217_5
              have HC217_5 := Aside0.mk hl217_5
              clear hi217_5 hl217_5
              replace p217 := eq_true p217
              replace q217 := eq_true q217
              go_wp2
              repeat (go_quiet (fail); try go_wp2)
              go_ret2
              exact ⟨by first | rfl | (simp; done) | (simp [*]; done), by repeat (first | exact Drawn0.refl _ | apply Drawn0.step)⟩
            · rw [if_neg c12] at H
              exact absurd H (by simp)
          · rw [if_neg c11] at H
            exact absurd H (by simp)

end Go.Proofs.Ytkhdpmbjjcmooaa.F
