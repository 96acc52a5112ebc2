-- Written by a program of this session (xprint.py), out of the translation and of contracts proved by hand.
import Derived.Test.YtcfpbmdndapeaaaF0
namespace Go.Proofs.Ytcfpbmdndapeaaa.F
open Go.RowKit Go.Proofs.YtcfpbmdndapeaaaV.PrintWords Go.Proofs.YtcfpbmdndapeaaaV.PrintLast Go.Proofs.YtcfpbmdndapeaaaV.PrintMore
attribute [local go_sem] max2_int min2_int max_two min_two max_three min_three max_four min_four   -- for this text's walks alone
set_option linter.unusedVariables false
set_option linter.unusedSimpArgs false

/-! ### watchmanref05_Next: function 101 -/
mutual
def watchmanref05_Next.j0 : Nat → Int → Int → Bool → Option (Int × Bool)
 | 0, _, _, _ => none
 | k + 1, x0, x1, x11 => if x11 = true then (some (0, false)) else (if x1 = 1 then (if x0 = 2 then (some (x0, true)) else (if x0 = 4 then (some (x0, true)) else (some (1, true)))) else (if x1 = 2 then (if x0 = 1 then (some (2, true)) else (some (0, false))) else (if x1 = 3 then (if x0 = 1 then (watchmanref05_Next.j1 k true) else (if x0 = 2 then (watchmanref05_Next.j1 k true) else (watchmanref05_Next.j1 k (x0 == 4)))) else (if x1 = 4 then (if x0 = 1 then (watchmanref05_Next.j2 k true) else (if x0 = 2 then (watchmanref05_Next.j2 k true) else (watchmanref05_Next.j2 k (x0 == 3)))) else (if x1 = 5 then (some (0, (x0 != 0))) else (if x1 = 6 then (if x0 = 4 then (some (1, true)) else (some (0, false))) else (some (0, false))))))))
def watchmanref05_Next.j1 : Nat → Bool → Option (Int × Bool)
 | 0, _ => none
 | k + 1, x37 => if x37 = true then (some (3, true)) else (some (0, false))
def watchmanref05_Next.j2 : Nat → Bool → Option (Int × Bool)
 | 0, _ => none
 | k + 1, x49 => if x49 = true then (some (4, true)) else (some (0, false))
end
def watchmanref05_Next.f (k : Nat) (a0 : Int) (a1 : Int) : Option (Int × Bool) := if a0 < 0 then (watchmanref05_Next.j0 k a0 a1 true) else (watchmanref05_Next.j0 k a0 a1 (decide (a0 > 4)))
theorem watchmanref05_Next.mono_l : ∀ k, (∀ y0 y1 y2, LeO (watchmanref05_Next.j0 k y0 y1 y2) (watchmanref05_Next.j0 (k + 1) y0 y1 y2)) ∧ (∀ y0, LeO (watchmanref05_Next.j1 k y0) (watchmanref05_Next.j1 (k + 1) y0)) ∧ (∀ y0, LeO (watchmanref05_Next.j2 k y0) (watchmanref05_Next.j2 (k + 1) y0))
 | 0 => ⟨fun _ _ _ r h => by simp [watchmanref05_Next.j0] at h, fun _ r h => by simp [watchmanref05_Next.j1] at h, fun _ r h => by simp [watchmanref05_Next.j2] at h⟩
 | k + 1 => by
  obtain ⟨ih0, ih1, ih2⟩ := watchmanref05_Next.mono_l k
  refine ⟨?_, ?_, ?_⟩
  ·intro y0 y1 y2
   unfold watchmanref05_Next.j0
   repeat' first
   | (with_reducible exact ih0 _ _ _)
   | (with_reducible exact ih1 _)
   | (with_reducible exact ih2 _)
   | (with_reducible exact LeO.refl _)
   | (with_reducible exact LeO.none _)
   | (with_reducible refine LeO.ite ?_ ?_)
   | (with_reducible refine LeO.bind ?_ (fun _ => ?_))
   | exact ih0 _ _ _
   | exact ih1 _
   | exact ih2 _
   | exact LeO.none _
   | refine LeO.ite ?_ ?_
   | refine LeO.bind ?_ (fun _ => ?_)
  ·intro y0
   unfold watchmanref05_Next.j1
   repeat' first
   | (with_reducible exact ih0 _ _ _)
   | (with_reducible exact ih1 _)
   | (with_reducible exact ih2 _)
   | (with_reducible exact LeO.refl _)
   | (with_reducible exact LeO.none _)
   | (with_reducible refine LeO.ite ?_ ?_)
   | (with_reducible refine LeO.bind ?_ (fun _ => ?_))
   | exact ih0 _ _ _
   | exact ih1 _
   | exact ih2 _
   | exact LeO.none _
   | refine LeO.ite ?_ ?_
   | refine LeO.bind ?_ (fun _ => ?_)
  ·intro y0
   unfold watchmanref05_Next.j2
   repeat' first
   | (with_reducible exact ih0 _ _ _)
   | (with_reducible exact ih1 _)
   | (with_reducible exact ih2 _)
   | (with_reducible exact LeO.refl _)
   | (with_reducible exact LeO.none _)
   | (with_reducible refine LeO.ite ?_ ?_)
   | (with_reducible refine LeO.bind ?_ (fun _ => ?_))
   | exact ih0 _ _ _
   | exact ih1 _
   | exact ih2 _
   | exact LeO.none _
   | refine LeO.ite ?_ ?_
   | refine LeO.bind ?_ (fun _ => ?_)
theorem watchmanref05_Next.mono : ∀ a0 a1 k, LeO (watchmanref05_Next.f k a0 a1) (watchmanref05_Next.f (k + 1) a0 a1) := by
 intro a0 a1 k
 obtain ⟨ih0, ih1, ih2⟩ := watchmanref05_Next.mono_l k
 unfold watchmanref05_Next.f
 repeat' first
   | (with_reducible exact ih0 _ _ _)
   | (with_reducible exact ih1 _)
   | (with_reducible exact ih2 _)
   | (with_reducible exact LeO.refl _)
   | (with_reducible exact LeO.none _)
   | (with_reducible refine LeO.ite ?_ ?_)
   | (with_reducible refine LeO.bind ?_ (fun _ => ?_))
   | exact ih0 _ _ _
   | exact ih1 _
   | exact ih2 _
   | exact LeO.none _
   | refine LeO.ite ?_ ?_
   | refine LeO.bind ?_ (fun _ => ?_)
set_option maxHeartbeats 8000000 in
set_option maxRecDepth 100000 in
theorem watchmanref05_Next.calls (k : Nat) (a0 : Int) (a1 : Int) (r1 : Int) (r2 : Bool) (w : World) (h : watchmanref05_Next.f k a0 a1 = some (r1, r2)) :
  Calls Try.prog 101 #[.int .i64 a0, .int .i64 a1] w fun e w' => e = .returned (.tuple #[.int .i64 r1, .bool r2]) ∧ Below w.heap.size w w' := by
 have HB := Aside0.mk (Below.refl w.heap.size w)
 have H : (if a0 < 0 then (watchmanref05_Next.j0 k a0 a1 true) else (watchmanref05_Next.j0 k a0 a1 (decide (a0 > 4)))) = some (r1, r2) := h
 clear h
 have HC3 := Aside0.mk H
 clear H
 go_enter Try.func101, Try.ntmps101
 go_upto_region 1 with (fail)
 go_cut [11] (fun v11 wc => ∃ (kq : Nat) (x11_2 : Bool), v11 = .bool x11_2 ∧ Aside0 (watchmanref05_Next.j0 kq a0 a1 x11_2 = some (r1, r2)) ∧ Aside0 (kq ≤ k) ∧ Aside0 (Below w.heap.size w wc))
 case first =>
  have H := HC3.out
  clear HC3
  by_cases c4 : a0 < 0
  ·rw [if_pos c4] at H
   have c4b0 : decide (a0 < 0) = true := decide_eq_true c4
   clear c4
   (first | rw [c4b0] | (simp only [i64_w, i32_w]; rw [c4b0]) | skip)
   have H' := Aside0.mk H
   clear H
   go_wp2
   go_meet
   case rel => exact ⟨_, (true), (by first | rfl | (simp; done) | (simp [*]; done)), H', ⟨by first | omega | exact Nat.le_refl _⟩, ⟨by repeat (with_reducible first | exact HB.out | apply pw_below_drewN | apply below_drew1)⟩⟩
  ·rw [if_neg c4] at H
   have c4b0 : decide (a0 < 0) = false := decide_eq_false c4
   clear c4
   (first | rw [c4b0] | (simp only [i64_w, i32_w]; rw [c4b0]) | skip)
   have H' := Aside0.mk H
   clear H
   go_wp2
   go_meet
   case rel => exact ⟨_, (decide (a0 > 4)), (by first | rfl | (simp; done) | (simp [*]; done)), H', ⟨by first | omega | exact Nat.le_refl _⟩, ⟨by repeat (with_reducible first | exact HB.out | apply pw_below_drewN | apply below_drew1)⟩⟩
 case rest =>
  clear HC3
  try clear c1; try clear p2; try clear c4; try clear c4b0
  obtain ⟨kq, x11_2, rfl, HA, HJ2, HB⟩ := hcut
  cases kq with
  | zero => exact absurd HA.out (by simp [watchmanref05_Next.j0])
  | succ kj2 =>
   have H := HA.out
   clear HA
   simp only [watchmanref05_Next.j0] at H
   by_cases c5 : x11_2 = true
   ·subst c5
    rw [if_pos rfl] at H; try dsimp only at H
    simp only [Option.some.injEq, Prod.mk.injEq] at H
    obtain ⟨rfl, rfl⟩ := H
    go_wp2
    go_ret2
    exact ⟨by first | rfl | (simp [errW_none, errW_some] <;> rfl) | (simp [*, errW_none, errW_some] <;> rfl), by repeat (with_reducible first | exact HB.out | apply pw_below_drewN | apply below_drew1)⟩
   ·replace c5 := Bool.eq_false_iff.mpr c5
    subst c5
    rw [if_neg (show ¬ (false = true) by decide)] at H; try dsimp only at H
    by_cases c6 : a1 = 1
    ·rw [if_pos c6] at H
     have c6b0 : (a1 == 1) = true := beq_iff_eq.mpr c6
     have c6b1 : (a1 != 1) = false := bne_eq_false_iff_eq.mpr c6
     clear c6
     by_cases c7 : a0 = 2
     ·rw [if_pos c7] at H
      have c7b0 : (a0 == 2) = true := beq_iff_eq.mpr c7
      have c7b1 : (a0 != 2) = false := bne_eq_false_iff_eq.mpr c7
      clear c7
      simp only [Option.some.injEq, Prod.mk.injEq] at H
      obtain ⟨rfl, rfl⟩ := H
      go_wp2
      go_ret2
      exact ⟨by first | rfl | (simp [errW_none, errW_some] <;> rfl) | (simp [*, errW_none, errW_some] <;> rfl), by repeat (with_reducible first | exact HB.out | apply pw_below_drewN | apply below_drew1)⟩
     ·rw [if_neg c7] at H
      have c7b0 : (a0 == 2) = false := beq_eq_false_iff_ne.mpr c7
      have c7b1 : (a0 != 2) = true := bne_iff_ne.mpr c7
      by_cases c8 : a0 = 4
      ·rw [if_pos c8] at H
       have c8b0 : (a0 == 4) = true := beq_iff_eq.mpr c8
       have c8b1 : (a0 != 4) = false := bne_eq_false_iff_eq.mpr c8
       clear c8
       simp only [Option.some.injEq, Prod.mk.injEq] at H
       obtain ⟨rfl, rfl⟩ := H
       go_wp2
       go_ret2
       exact ⟨by first | rfl | (simp [errW_none, errW_some] <;> rfl) | (simp [*, errW_none, errW_some] <;> rfl), by repeat (with_reducible first | exact HB.out | apply pw_below_drewN | apply below_drew1)⟩
      ·rw [if_neg c8] at H
       have c8b0 : (a0 == 4) = false := beq_eq_false_iff_ne.mpr c8
       have c8b1 : (a0 != 4) = true := bne_iff_ne.mpr c8
       simp only [Option.some.injEq, Prod.mk.injEq] at H
       obtain ⟨rfl, rfl⟩ := H
       go_wp2
       go_ret2
       exact ⟨by first | rfl | (simp [errW_none, errW_some] <;> rfl) | (simp [*, errW_none, errW_some] <;> rfl), by repeat (with_reducible first | exact HB.out | apply pw_below_drewN | apply below_drew1)⟩
    ·rw [if_neg c6] at H
     have c6b0 : (a1 == 1) = false := beq_eq_false_iff_ne.mpr c6
     have c6b1 : (a1 != 1) = true := bne_iff_ne.mpr c6
     by_cases c9 : a1 = 2
     ·rw [if_pos c9] at H
      have c9b0 : (a1 == 2) = true := beq_iff_eq.mpr c9
      have c9b1 : (a1 != 2) = false := bne_eq_false_iff_eq.mpr c9
      clear c9
      by_cases c10 : a0 = 1
      ·rw [if_pos c10] at H
       have c10b0 : (a0 == 1) = true := beq_iff_eq.mpr c10
       have c10b1 : (a0 != 1) = false := bne_eq_false_iff_eq.mpr c10
       clear c10
       simp only [Option.some.injEq, Prod.mk.injEq] at H
       obtain ⟨rfl, rfl⟩ := H
       go_wp2
       go_ret2
       exact ⟨by first | rfl | (simp [errW_none, errW_some] <;> rfl) | (simp [*, errW_none, errW_some] <;> rfl), by repeat (with_reducible first | exact HB.out | apply pw_below_drewN | apply below_drew1)⟩
      ·rw [if_neg c10] at H
       have c10b0 : (a0 == 1) = false := beq_eq_false_iff_ne.mpr c10
       have c10b1 : (a0 != 1) = true := bne_iff_ne.mpr c10
       simp only [Option.some.injEq, Prod.mk.injEq] at H
       obtain ⟨rfl, rfl⟩ := H
       go_wp2
       go_ret2
       exact ⟨by first | rfl | (simp [errW_none, errW_some] <;> rfl) | (simp [*, errW_none, errW_some] <;> rfl), by repeat (with_reducible first | exact HB.out | apply pw_below_drewN | apply below_drew1)⟩
     ·rw [if_neg c9] at H
      have c9b0 : (a1 == 2) = false := beq_eq_false_iff_ne.mpr c9
      have c9b1 : (a1 != 2) = true := bne_iff_ne.mpr c9
      by_cases c11 : a1 = 3
      ·rw [if_pos c11] at H
       have c11b0 : (a1 == 3) = true := beq_iff_eq.mpr c11
       have c11b1 : (a1 != 3) = false := bne_eq_false_iff_eq.mpr c11
       clear c11
       have HC12 := Aside0.mk H
       clear H
       go_upto_region 12 with (fail)
       go_cut [37] (fun v37 wc => ∃ (kq : Nat) (x37_11 : Bool), v37 = .bool x37_11 ∧ Aside0 (watchmanref05_Next.j1 kq x37_11 = some (r1, r2)) ∧ Aside0 (kq ≤ kj2) ∧ Aside0 (Below w.heap.size w wc))
       case first =>
        have H := HC12.out
        clear HC12
        by_cases c13 : a0 = 1
        ·rw [if_pos c13] at H
         have c13b0 : (a0 == 1) = true := beq_iff_eq.mpr c13
         have c13b1 : (a0 != 1) = false := bne_eq_false_iff_eq.mpr c13
         clear c13
         (first | rw [c13b0] | (simp only [i64_w, i32_w]; rw [c13b0]) | skip)
         have H' := Aside0.mk H
         clear H
         go_wp2
         go_meet
         case rel => exact ⟨_, (true), (by first | rfl | (simp; done) | (simp [*]; done)), H', ⟨by have := HJ2.out; first | omega | exact Nat.le_refl _⟩, ⟨by repeat (with_reducible first | exact HB.out | apply pw_below_drewN | apply below_drew1)⟩⟩
        ·rw [if_neg c13] at H
         have c13b0 : (a0 == 1) = false := beq_eq_false_iff_ne.mpr c13
         have c13b1 : (a0 != 1) = true := bne_iff_ne.mpr c13
         (first | rw [c13b0] | (simp only [i64_w, i32_w]; rw [c13b0]) | skip)
         by_cases c14 : a0 = 2
         ·rw [if_pos c14] at H
          have c14b0 : (a0 == 2) = true := beq_iff_eq.mpr c14
          have c14b1 : (a0 != 2) = false := bne_eq_false_iff_eq.mpr c14
          clear c14
          have H' := Aside0.mk H
          clear H
          go_wp2
          go_meet
          case rel => exact ⟨_, (true), (by first | rfl | (simp; done) | (simp [*]; done)), H', ⟨by have := HJ2.out; first | omega | exact Nat.le_refl _⟩, ⟨by repeat (with_reducible first | exact HB.out | apply pw_below_drewN | apply below_drew1)⟩⟩
         ·rw [if_neg c14] at H
          have c14b0 : (a0 == 2) = false := beq_eq_false_iff_ne.mpr c14
          have c14b1 : (a0 != 2) = true := bne_iff_ne.mpr c14
          have H' := Aside0.mk H
          clear H
          go_wp2
          go_meet
          case rel => exact ⟨_, ((a0 == 4)), (by first | rfl | (simp; done) | (simp [*]; done)), H', ⟨by have := HJ2.out; first | omega | exact Nat.le_refl _⟩, ⟨by repeat (with_reducible first | exact HB.out | apply pw_below_drewN | apply below_drew1)⟩⟩
       case rest =>
        clear HC12
        try clear c1; try clear p2; try clear c4; try clear c4b0; try clear c5; try clear c6; try clear c6b0; try clear c6b1; try clear c7; try clear c7b0; try clear c7b1; try clear c8; try clear c8b0; try clear c8b1; try clear c9; try clear c9b0; try clear c9b1; try clear c10; try clear c10b0; try clear c10b1; try clear c11; try clear c11b0; try clear c11b1; try clear c13; try clear c13b0; try clear c13b1; try clear c14; try clear c14b0; try clear c14b1; try clear p2
        obtain ⟨kq, x37_11, rfl, HA, HJ11, HB⟩ := hcut
        cases kq with
        | zero => exact absurd HA.out (by simp [watchmanref05_Next.j1])
        | succ kj11 =>
         have H := HA.out
         clear HA
         simp only [watchmanref05_Next.j1] at H
         by_cases c15 : x37_11 = true
         ·subst c15
          rw [if_pos rfl] at H; try dsimp only at H
          simp only [Option.some.injEq, Prod.mk.injEq] at H
          obtain ⟨rfl, rfl⟩ := H
          go_wp2
          go_ret2
          exact ⟨by first | rfl | (simp [errW_none, errW_some] <;> rfl) | (simp [*, errW_none, errW_some] <;> rfl), by repeat (with_reducible first | exact HB.out | apply pw_below_drewN | apply below_drew1)⟩
         ·replace c15 := Bool.eq_false_iff.mpr c15
          subst c15
          rw [if_neg (show ¬ (false = true) by decide)] at H; try dsimp only at H
          simp only [Option.some.injEq, Prod.mk.injEq] at H
          obtain ⟨rfl, rfl⟩ := H
          go_wp2
          go_ret2
          exact ⟨by first | rfl | (simp [errW_none, errW_some] <;> rfl) | (simp [*, errW_none, errW_some] <;> rfl), by repeat (with_reducible first | exact HB.out | apply pw_below_drewN | apply below_drew1)⟩
      ·rw [if_neg c11] at H
       have c11b0 : (a1 == 3) = false := beq_eq_false_iff_ne.mpr c11
       have c11b1 : (a1 != 3) = true := bne_iff_ne.mpr c11
       by_cases c16 : a1 = 4
       ·rw [if_pos c16] at H
        have c16b0 : (a1 == 4) = true := beq_iff_eq.mpr c16
        have c16b1 : (a1 != 4) = false := bne_eq_false_iff_eq.mpr c16
        clear c16
        have HC17 := Aside0.mk H
        clear H
        go_upto_region 15 with (fail)
        go_cut [49] (fun v49 wc => ∃ (kq : Nat) (x49_16 : Bool), v49 = .bool x49_16 ∧ Aside0 (watchmanref05_Next.j2 kq x49_16 = some (r1, r2)) ∧ Aside0 (kq ≤ kj2) ∧ Aside0 (Below w.heap.size w wc))
        case first =>
         have H := HC17.out
         clear HC17
         by_cases c18 : a0 = 1
         ·rw [if_pos c18] at H
          have c18b0 : (a0 == 1) = true := beq_iff_eq.mpr c18
          have c18b1 : (a0 != 1) = false := bne_eq_false_iff_eq.mpr c18
          clear c18
          (first | rw [c18b0] | (simp only [i64_w, i32_w]; rw [c18b0]) | skip)
          have H' := Aside0.mk H
          clear H
          go_wp2
          go_meet
          case rel => exact ⟨_, (true), (by first | rfl | (simp; done) | (simp [*]; done)), H', ⟨by have := HJ2.out; first | omega | exact Nat.le_refl _⟩, ⟨by repeat (with_reducible first | exact HB.out | apply pw_below_drewN | apply below_drew1)⟩⟩
         ·rw [if_neg c18] at H
          have c18b0 : (a0 == 1) = false := beq_eq_false_iff_ne.mpr c18
          have c18b1 : (a0 != 1) = true := bne_iff_ne.mpr c18
          (first | rw [c18b0] | (simp only [i64_w, i32_w]; rw [c18b0]) | skip)
          by_cases c19 : a0 = 2
          ·rw [if_pos c19] at H
           have c19b0 : (a0 == 2) = true := beq_iff_eq.mpr c19
           have c19b1 : (a0 != 2) = false := bne_eq_false_iff_eq.mpr c19
           clear c19
           have H' := Aside0.mk H
           clear H
           go_wp2
           go_meet
           case rel => exact ⟨_, (true), (by first | rfl | (simp; done) | (simp [*]; done)), H', ⟨by have := HJ2.out; first | omega | exact Nat.le_refl _⟩, ⟨by repeat (with_reducible first | exact HB.out | apply pw_below_drewN | apply below_drew1)⟩⟩
          ·rw [if_neg c19] at H
           have c19b0 : (a0 == 2) = false := beq_eq_false_iff_ne.mpr c19
           have c19b1 : (a0 != 2) = true := bne_iff_ne.mpr c19
           have H' := Aside0.mk H
           clear H
           go_wp2
           go_meet
           case rel => exact ⟨_, ((a0 == 3)), (by first | rfl | (simp; done) | (simp [*]; done)), H', ⟨by have := HJ2.out; first | omega | exact Nat.le_refl _⟩, ⟨by repeat (with_reducible first | exact HB.out | apply pw_below_drewN | apply below_drew1)⟩⟩
        case rest =>
         clear HC17
         try clear c1; try clear p2; try clear c4; try clear c4b0; try clear c5; try clear c6; try clear c6b0; try clear c6b1; try clear c7; try clear c7b0; try clear c7b1; try clear c8; try clear c8b0; try clear c8b1; try clear c9; try clear c9b0; try clear c9b1; try clear c10; try clear c10b0; try clear c10b1; try clear c11; try clear c11b0; try clear c11b1; try clear c13; try clear c13b0; try clear c13b1; try clear c14; try clear c14b0; try clear c14b1; try clear c15; try clear c16; try clear c16b0; try clear c16b1; try clear c18; try clear c18b0; try clear c18b1; try clear c19; try clear c19b0; try clear c19b1; try clear p2
         obtain ⟨kq, x49_16, rfl, HA, HJ16, HB⟩ := hcut
         cases kq with
         | zero => exact absurd HA.out (by simp [watchmanref05_Next.j2])
         | succ kj16 =>
          have H := HA.out
          clear HA
          simp only [watchmanref05_Next.j2] at H
          by_cases c20 : x49_16 = true
          ·subst c20
           rw [if_pos rfl] at H; try dsimp only at H
           simp only [Option.some.injEq, Prod.mk.injEq] at H
           obtain ⟨rfl, rfl⟩ := H
           go_wp2
           go_ret2
           exact ⟨by first | rfl | (simp [errW_none, errW_some] <;> rfl) | (simp [*, errW_none, errW_some] <;> rfl), by repeat (with_reducible first | exact HB.out | apply pw_below_drewN | apply below_drew1)⟩
          ·replace c20 := Bool.eq_false_iff.mpr c20
           subst c20
           rw [if_neg (show ¬ (false = true) by decide)] at H; try dsimp only at H
           simp only [Option.some.injEq, Prod.mk.injEq] at H
           obtain ⟨rfl, rfl⟩ := H
           go_wp2
           go_ret2
           exact ⟨by first | rfl | (simp [errW_none, errW_some] <;> rfl) | (simp [*, errW_none, errW_some] <;> rfl), by repeat (with_reducible first | exact HB.out | apply pw_below_drewN | apply below_drew1)⟩
       ·rw [if_neg c16] at H
        have c16b0 : (a1 == 4) = false := beq_eq_false_iff_ne.mpr c16
        have c16b1 : (a1 != 4) = true := bne_iff_ne.mpr c16
        by_cases c21 : a1 = 5
        ·rw [if_pos c21] at H
         have c21b0 : (a1 == 5) = true := beq_iff_eq.mpr c21
         have c21b1 : (a1 != 5) = false := bne_eq_false_iff_eq.mpr c21
         clear c21
         simp only [Option.some.injEq, Prod.mk.injEq] at H
         obtain ⟨rfl, rfl⟩ := H
         go_wp2
         go_ret2
         exact ⟨by first | rfl | (simp [errW_none, errW_some] <;> rfl) | (simp [*, errW_none, errW_some] <;> rfl), by repeat (with_reducible first | exact HB.out | apply pw_below_drewN | apply below_drew1)⟩
        ·rw [if_neg c21] at H
         have c21b0 : (a1 == 5) = false := beq_eq_false_iff_ne.mpr c21
         have c21b1 : (a1 != 5) = true := bne_iff_ne.mpr c21
         by_cases c22 : a1 = 6
         ·rw [if_pos c22] at H
          have c22b0 : (a1 == 6) = true := beq_iff_eq.mpr c22
          have c22b1 : (a1 != 6) = false := bne_eq_false_iff_eq.mpr c22
          clear c22
          by_cases c23 : a0 = 4
          ·rw [if_pos c23] at H
           have c23b0 : (a0 == 4) = true := beq_iff_eq.mpr c23
           have c23b1 : (a0 != 4) = false := bne_eq_false_iff_eq.mpr c23
           clear c23
           simp only [Option.some.injEq, Prod.mk.injEq] at H
           obtain ⟨rfl, rfl⟩ := H
           go_wp2
           go_ret2
           exact ⟨by first | rfl | (simp [errW_none, errW_some] <;> rfl) | (simp [*, errW_none, errW_some] <;> rfl), by repeat (with_reducible first | exact HB.out | apply pw_below_drewN | apply below_drew1)⟩
          ·rw [if_neg c23] at H
           have c23b0 : (a0 == 4) = false := beq_eq_false_iff_ne.mpr c23
           have c23b1 : (a0 != 4) = true := bne_iff_ne.mpr c23
           simp only [Option.some.injEq, Prod.mk.injEq] at H
           obtain ⟨rfl, rfl⟩ := H
           go_wp2
           go_ret2
           exact ⟨by first | rfl | (simp [errW_none, errW_some] <;> rfl) | (simp [*, errW_none, errW_some] <;> rfl), by repeat (with_reducible first | exact HB.out | apply pw_below_drewN | apply below_drew1)⟩
         ·rw [if_neg c22] at H
          have c22b0 : (a1 == 6) = false := beq_eq_false_iff_ne.mpr c22
          have c22b1 : (a1 != 6) = true := bne_iff_ne.mpr c22
          simp only [Option.some.injEq, Prod.mk.injEq] at H
          obtain ⟨rfl, rfl⟩ := H
          go_wp2
          go_ret2
          exact ⟨by first | rfl | (simp [errW_none, errW_some] <;> rfl) | (simp [*, errW_none, errW_some] <;> rfl), by repeat (with_reducible first | exact HB.out | apply pw_below_drewN | apply below_drew1)⟩

/-! ### watchmanref06_Wait: function 71 -/
def watchmanref06_Wait.f (a0 : Int) : Option (Int) := if a0 = 1 then (some 10) else (if a0 = 2 then (some 30) else (if a0 = 3 then (some 90) else (some 0)))
set_option maxHeartbeats 8000000 in
set_option maxRecDepth 100000 in
theorem watchmanref06_Wait.calls (a0 : Int) (r : Int) (w : World) (h : watchmanref06_Wait.f a0 = some r) :
  Calls Try.prog 71 #[.int .i64 a0] w fun e w' => e = .returned (.int .i64 r) ∧ Drawn0 w w' := by
 have H : (if a0 = 1 then (some 10) else (if a0 = 2 then (some 30) else (if a0 = 3 then (some 90) else (some 0)))) = some r := h
 clear h
 by_cases c2 : a0 = 1
 ·rw [if_pos c2] at H
  have c2b0 : (a0 == 1) = true := beq_iff_eq.mpr c2
  have c2b1 : (a0 != 1) = false := bne_eq_false_iff_eq.mpr c2
  clear c2
  obtain rfl := Option.some.inj H
  go_enter Try.func71, Try.ntmps71
  go_wp2
  go_ret
  exact ⟨by first | rfl | (simp; done) | (simp [*]; done), by repeat (first | exact Drawn0.refl _ | apply Drawn0.step)⟩
 ·rw [if_neg c2] at H
  have c2b0 : (a0 == 1) = false := beq_eq_false_iff_ne.mpr c2
  have c2b1 : (a0 != 1) = true := bne_iff_ne.mpr c2
  by_cases c3 : a0 = 2
  ·rw [if_pos c3] at H
   have c3b0 : (a0 == 2) = true := beq_iff_eq.mpr c3
   have c3b1 : (a0 != 2) = false := bne_eq_false_iff_eq.mpr c3
   clear c3
   obtain rfl := Option.some.inj H
   go_enter Try.func71, Try.ntmps71
   go_wp2
   go_ret
   exact ⟨by first | rfl | (simp; done) | (simp [*]; done), by repeat (first | exact Drawn0.refl _ | apply Drawn0.step)⟩
  ·rw [if_neg c3] at H
   have c3b0 : (a0 == 2) = false := beq_eq_false_iff_ne.mpr c3
   have c3b1 : (a0 != 2) = true := bne_iff_ne.mpr c3
   by_cases c4 : a0 = 3
   ·rw [if_pos c4] at H
    have c4b0 : (a0 == 3) = true := beq_iff_eq.mpr c4
    have c4b1 : (a0 != 3) = false := bne_eq_false_iff_eq.mpr c4
    clear c4
    obtain rfl := Option.some.inj H
    go_enter Try.func71, Try.ntmps71
    go_wp2
    go_ret
    exact ⟨by first | rfl | (simp; done) | (simp [*]; done), by repeat (first | exact Drawn0.refl _ | apply Drawn0.step)⟩
   ·rw [if_neg c4] at H
    have c4b0 : (a0 == 3) = false := beq_eq_false_iff_ne.mpr c4
    have c4b1 : (a0 != 3) = true := bne_iff_ne.mpr c4
    obtain rfl := Option.some.inj H
    go_enter Try.func71, Try.ntmps71
    go_wp2
    go_ret
    exact ⟨by first | rfl | (simp; done) | (simp [*]; done), by repeat (first | exact Drawn0.refl _ | apply Drawn0.step)⟩

end Go.Proofs.Ytcfpbmdndapeaaa.F
