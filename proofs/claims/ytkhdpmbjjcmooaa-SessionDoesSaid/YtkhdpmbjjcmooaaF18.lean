-- Written by a program of this session (xprint.py), out of the translation and of contracts proved by hand.
import Derived.Test.YtkhdpmbjjcmooaaF0
import Derived.Test.YtkhdpmbjjcmooaaF17
namespace Go.Proofs.Ytkhdpmbjjcmooaa.F
open Go.RowKit Go.Proofs.YtkhdpmbjjcmooaaV.PrintWords Go.Proofs.YtkhdpmbjjcmooaaV.PrintLast Go.Proofs.YtkhdpmbjjcmooaaV.PrintMore
attribute [local go_sem] max2_int min2_int max_two min_two max_three min_three max_four min_four   -- for this text's walks alone
set_option linter.unusedVariables false
set_option linter.unusedSimpArgs false

/-! ### watchmanref18_Same: function 25 -/
def watchmanref18_Same.l0 : Nat → List (S39) → List (S39) → Int → Option (Bool)
  | 0, _, _, _ => none
  | k + 1, x0, x1, x5 => if x5 < (x0.length : Int) then (if 0 ≤ x5 then (if x5 < (x1.length : Int) then (if ((rd_T39 x0 x5).f0) = ((rd_T39 x1 x5).f0) then (if ((rd_T39 x0 x5).f1) = ((rd_T39 x1 x5).f1) then (if ((rd_T39 x0 x5).f2) = ((rd_T39 x1 x5).f2) then ((watchmanref18_SameAnswer.f k ((rd_T39 x0 x5).f3.f0) ((rd_T39 x0 x5).f3.f1) ((rd_T39 x0 x5).f3.f2) ((rd_T39 x1 x5).f3.f0) ((rd_T39 x1 x5).f3.f1) ((rd_T39 x1 x5).f3.f2)).bind fun t337 => (if t337 = true then (watchmanref18_Same.l0 k x0 x1 (wrap64 (x5 + 1))) else (some false))) else (some false)) else (some false)) else (some false)) else (none)) else (none)) else (some true)
def watchmanref18_Same.f (k : Nat) (l0 : List (S39)) (l1 : List (S39)) : Option (Bool) := if (l0.length : Int) = (l1.length : Int) then (watchmanref18_Same.l0 k l0 l1 0) else (some false)
theorem watchmanref18_Same.mono_l : ∀ k, (∀ y0 y1 y2, LeO (watchmanref18_Same.l0 k y0 y1 y2) (watchmanref18_Same.l0 (k + 1) y0 y1 y2))
  | 0 => fun _ _ _ r h => by simp [watchmanref18_Same.l0] at h
  | k + 1 => by
    have ih0 := watchmanref18_Same.mono_l k
    · intro y0 y1 y2
      unfold watchmanref18_Same.l0
      repeat' first
      | (with_reducible exact ih0 _ _ _)
      | (with_reducible exact watchmanref18_SameAnswer.mono _ _ _ _ _ _ _)
      | (with_reducible exact LeO.refl _)
      | (with_reducible exact LeO.none _)
      | (with_reducible refine LeO.ite ?_ ?_)
      | (with_reducible refine LeO.bind ?_ (fun _ => ?_))
      | exact ih0 _ _ _
      | exact watchmanref18_SameAnswer.mono _ _ _ _ _ _ _
      | exact LeO.none _
      | refine LeO.ite ?_ ?_
      | refine LeO.bind ?_ (fun _ => ?_)
theorem watchmanref18_Same.mono : ∀ a0 a1 k, LeO (watchmanref18_Same.f k a0 a1) (watchmanref18_Same.f (k + 1) a0 a1) := by
  intro a0 a1 k
  have ih0 := watchmanref18_Same.mono_l k
  unfold watchmanref18_Same.f
  repeat' first
      | (with_reducible exact ih0 _ _ _)
      | (with_reducible exact watchmanref18_SameAnswer.mono _ _ _ _ _ _ _)
      | (with_reducible exact LeO.refl _)
      | (with_reducible exact LeO.none _)
      | (with_reducible refine LeO.ite ?_ ?_)
      | (with_reducible refine LeO.bind ?_ (fun _ => ?_))
      | exact ih0 _ _ _
      | exact watchmanref18_SameAnswer.mono _ _ _ _ _ _ _
      | exact LeO.none _
      | refine LeO.ite ?_ ?_
      | refine LeO.bind ?_ (fun _ => ?_)
def watchmanref18_Same.T6 : Bool × List (List Nat × List Nat) := (true, [([], []), ([], []), ([0, 1], [0, 1]), ([2], [2]), ([3], [3]), ([], []), ([], []), ([5, 6], [5, 6]), ([7], [7]), ([8], [8]), ([4, 9], [4, 9]), ([10], [10]), ([11], [11]), ([11], [11]), ([12, 13, 11], [11, 12, 13]), ([14, 11], [11, 14]), ([15, 11], [11, 15]), ([11], [11]), ([11], [11]), ([17, 18, 11], [11, 17, 18]), ([19, 11], [11, 19]), ([20, 11], [11, 20]), ([16, 21, 11], [11, 16, 21]), ([11, 22], [11, 22]), ([23, 11], [23]), ([24], [24]), ([24], [24]), ([25, 26, 24], [24, 25, 26]), ([27, 24], [24, 27]), ([28, 24], [24, 28]), ([24], [24]), ([24], [24]), ([30, 31, 24], [24, 30, 31]), ([32, 24], [24, 32]), ([33, 24], [24, 33]), ([29, 34, 24], [24, 29, 34]), ([24, 35], [24, 35]), ([36, 24], [36]), ([37], [37]), ([37], [37]), ([38, 39, 37], [37, 38, 39]), ([40, 37], [37, 40]), ([41, 37], [37, 41]), ([37], [37]), ([37], [37]), ([43, 44, 37], [37, 43, 44]), ([45, 37], [37, 45]), ([46, 37], [37, 46]), ([42, 47, 37, 37], [37, 42, 47]), ([48, 37], [37, 48]), ([37, 49], [37, 49])])
def watchmanref18_Same.B6 : List Nat := [0, 0, 3, 7, 15, 0, 0, 96, 224, 480, 1023, 2047, 4095, 4095, 16383, 32767, 65535, 4095, 4095, 397311, 921599, 1970175, 4194303, 8388607, 16777215, 33554431, 33554431, 134217727, 268435455, 536870911, 33554431, 33554431, 3254779903, 7549747199, 16139681791, 34359738367, 68719476735, 137438953471, 274877906943, 274877906943, 1099511627775, 2199023255551, 4398046511103, 274877906943, 274877906943, 26663156973567, 61847529062399, 132216273240063, 281474976710655, 562949953421311, 1125899906842623]
theorem watchmanref18_Same.tab6 : rtab .any (opsOf Try.f25 6) = watchmanref18_Same.T6 := by kernel_rfl
theorem watchmanref18_Same.bits6 : waitsOk watchmanref18_Same.T6.2 watchmanref18_Same.B6 = true := by kernel_rfl
set_option maxHeartbeats 8000000 in
set_option maxRecDepth 100000 in
theorem watchmanref18_Same.calls (k : Nat) (A0 : Option Addr) (c0 : Nat) (l0 : List (S39)) (A1 : Option Addr) (c1 : Nat) (l1 : List (S39)) (r : Bool) (w : World) (hr0 : Kd.C k39 w A0 l0.length l0) (hc0 : l0.length ≤ c0) (hr1 : Kd.C k39 w A1 l1.length l1) (hc1 : l1.length ≤ c1) (h : watchmanref18_Same.f k l0 l1 = some r) :
    Calls Try.prog 25 #[.slice A0 l0.length c0, .slice A1 l1.length c1] w fun e w' => e = .returned (.bool r) ∧ Below w.heap.size w w' := by
  have hu26 := Try.underlying26
  have HR0 := Aside0.mk hr0
  have HC0 := Aside0.mk hc0
  clear hr0 hc0
  have HR1 := Aside0.mk hr1
  have HC1 := Aside0.mk hc1
  clear hr1 hc1
  have HB := Aside0.mk (Below.refl w.heap.size w)
  have H : (if (l0.length : Int) = (l1.length : Int) then (watchmanref18_Same.l0 k l0 l1 0) else (some false)) = some r := h
  clear h
  by_cases c3 : (l0.length : Int) = (l1.length : Int)
  · rw [if_pos c3] at H
    have c3b0 : ((l0.length : Int) == (l1.length : Int)) = true := beq_iff_eq.mpr c3
    have c3b1 : ((l0.length : Int) != (l1.length : Int)) = false := bne_eq_false_iff_eq.mpr c3
    have c3b2 : (l0.length == l1.length) = true := by first | simpa using c3 | (simp at c3 ⊢; omega)
    clear c3
    have H' := Aside0.mk H
    clear H
    go_enter Try.func25, Try.ntmps25
    go_wp2
    go_loopg [5] k (fun kq v5 w' => ∃ (x5_1 : Int), v5 = .int .i64 x5_1 ∧ Aside0 (watchmanref18_Same.l0 kq l0 l1 x5_1 = some r) ∧ Aside0 (kq ≤ k) ∧ Aside0 (Below w.heap.size w w'))
    case atStart => exact ⟨(0), (by first | rfl | (simp; done) | (simp [*]; done)), H', ⟨Nat.le_refl _⟩, ⟨by repeat (first | (with_reducible first | exact HB.out | apply below_alloc | apply pw_below_drewN | apply below_drew1) | exact HB.out)⟩⟩
    case round =>
      clear H'
      try clear c1
      try clear c2
      try clear p2
      try clear c3
      try clear c3b0
      try clear c3b1
      try clear c3b2
      obtain ⟨x5_1, rfl, HA, HK1, HB⟩ := hrel
      cases gk with
      | zero => exact absurd HA.out (by simp [watchmanref18_Same.l0])
      | succ k1 =>
        have H := HA.out
        clear HA
        simp only [watchmanref18_Same.l0] at H
        by_cases c4 : x5_1 < (l0.length : Int)
        · rw [if_pos c4] at H
          have c4b0 : decide (x5_1 < (l0.length : Int)) = true := decide_eq_true c4
          clear c4
          by_cases c5 : 0 ≤ x5_1
          · rw [if_pos c5] at H
            have c5b0 : decide (0 ≤ x5_1) = true := decide_eq_true c5
            clear c5
            by_cases c6 : x5_1 < (l1.length : Int)
            · rw [if_pos c6] at H
              have c6b0 : decide (x5_1 < (l1.length : Int)) = true := decide_eq_true c6
              clear c6
              by_cases c7 : ((rd_T39 l0 x5_1).f0) = ((rd_T39 l1 x5_1).f0)
              · rw [if_pos c7] at H
                have c7b0 : (((rd_T39 l0 x5_1).f0) == ((rd_T39 l1 x5_1).f0)) = true := beq_iff_eq.mpr c7
                have c7b1 : (((rd_T39 l0 x5_1).f0) != ((rd_T39 l1 x5_1).f0)) = false := bne_eq_false_iff_eq.mpr c7
                clear c7
                by_cases c8 : ((rd_T39 l0 x5_1).f1) = ((rd_T39 l1 x5_1).f1)
                · rw [if_pos c8] at H
                  have c8b0 : (((rd_T39 l0 x5_1).f1) == ((rd_T39 l1 x5_1).f1)) = true := beq_iff_eq.mpr c8
                  have c8b1 : (((rd_T39 l0 x5_1).f1) != ((rd_T39 l1 x5_1).f1)) = false := bne_eq_false_iff_eq.mpr c8
                  clear c8
                  by_cases c9 : ((rd_T39 l0 x5_1).f2) = ((rd_T39 l1 x5_1).f2)
                  · rw [if_pos c9] at H
                    have c9b0 : (((rd_T39 l0 x5_1).f2) == ((rd_T39 l1 x5_1).f2)) = true := beq_iff_eq.mpr c9
                    have c9b1 : (((rd_T39 l0 x5_1).f2) != ((rd_T39 l1 x5_1).f2)) = false := bne_eq_false_iff_eq.mpr c9
                    clear c9
                    replace H := Option.bind_eq_some_iff.mp H
                    obtain ⟨t337, A100, H⟩ := H
                    replace H : (if t337 = true then (watchmanref18_Same.l0 k1 l0 l1 (wrap64 (x5_1 + 1))) else (some false)) = some r := H
                    have A10 := Aside0.mk A100
                    clear A100
                    by_cases c11 : t337 = true
                    · subst c11
                      have H1 : (watchmanref18_Same.l0 k1 l0 l1 (wrap64 (x5_1 + 1))) = some r := by rw [if_pos rfl] at H; exact H
                      clear H
                      have H := H1
                      clear H1
                      have H' := Aside0.mk H
                      clear H
                      try go_wp2
                      replace HB := Aside0.mk (below_drew1 HB.out)
                      have p329 : 0 ≤ (x5_1 : Int) := of_decide_eq_true (by first | (with_reducible assumption) | assumption)
                      have q329 : x5_1 < (l0.length : Int) := of_decide_eq_true (by first | (with_reducible assumption) | assumption)
                      obtain ⟨ad329, A329_5, c329_5, e329, hx329_0, hx329_1, hx329_2, hx329_3, hx329_4, hx329_5, hl329_5, hi329_5⟩ := at_T39 HR0.out x5_1 p329 q329
                      have hw329_5 := hx329_5
                      have hw329_4 := hx329_4
                      have hw329_3 := hx329_3
                      have hw329_2 := hx329_2
                      have hw329_1 := hx329_1
                      have hw329_0 := hx329_0
                      cases e329
                      replace hx329_0 := (HB.out.cell (World.block_lt_of_cell? w _ hx329_0)).trans hx329_0
                      replace hx329_1 := (HB.out.cell (World.block_lt_of_cell? w _ hx329_1)).trans hx329_1
                      replace hx329_2 := (HB.out.cell (World.block_lt_of_cell? w _ hx329_2)).trans hx329_2
                      replace hx329_3 := (HB.out.cell (World.block_lt_of_cell? w _ hx329_3)).trans hx329_3
                      replace hx329_4 := (HB.out.cell (World.block_lt_of_cell? w _ hx329_4)).trans hx329_4
                      replace hx329_5 := (HB.out.cell (World.block_lt_of_cell? w _ hx329_5)).trans hx329_5
                      have HR329_5 := Aside0.mk hi329_5
                      have HC329_5 := Aside0.mk hl329_5
                      clear hi329_5 hl329_5
                      replace p329 := eq_true p329
                      replace q329 := eq_true q329
                      have p330 : 0 ≤ (x5_1 : Int) := of_decide_eq_true (by first | (with_reducible assumption) | assumption)
                      have q330 : x5_1 < (l1.length : Int) := of_decide_eq_true (by first | (with_reducible assumption) | assumption)
                      obtain ⟨ad330, A330_5, c330_5, e330, hx330_0, hx330_1, hx330_2, hx330_3, hx330_4, hx330_5, hl330_5, hi330_5⟩ := at_T39 HR1.out x5_1 p330 q330
                      have hw330_5 := hx330_5
                      have hw330_4 := hx330_4
                      have hw330_3 := hx330_3
                      have hw330_2 := hx330_2
                      have hw330_1 := hx330_1
                      have hw330_0 := hx330_0
                      cases e330
                      replace hx330_0 := (HB.out.cell (World.block_lt_of_cell? w _ hx330_0)).trans hx330_0
                      replace hx330_1 := (HB.out.cell (World.block_lt_of_cell? w _ hx330_1)).trans hx330_1
                      replace hx330_2 := (HB.out.cell (World.block_lt_of_cell? w _ hx330_2)).trans hx330_2
                      replace hx330_3 := (HB.out.cell (World.block_lt_of_cell? w _ hx330_3)).trans hx330_3
                      replace hx330_4 := (HB.out.cell (World.block_lt_of_cell? w _ hx330_4)).trans hx330_4
                      replace hx330_5 := (HB.out.cell (World.block_lt_of_cell? w _ hx330_5)).trans hx330_5
                      have HR330_5 := Aside0.mk hi330_5
                      have HC330_5 := Aside0.mk hl330_5
                      clear hi330_5 hl330_5
                      replace p330 := eq_true p330
                      replace q330 := eq_true q330
                      have p331 : 0 ≤ (x5_1 : Int) := of_decide_eq_true (by first | (with_reducible assumption) | assumption)
                      have q331 : x5_1 < (l0.length : Int) := of_decide_eq_true (by first | (with_reducible assumption) | assumption)
                      obtain ⟨ad331, A331_5, c331_5, e331, hx331_0, hx331_1, hx331_2, hx331_3, hx331_4, hx331_5, hl331_5, hi331_5⟩ := at_T39 HR0.out x5_1 p331 q331
                      have hw331_5 := hx331_5
                      have hw331_4 := hx331_4
                      have hw331_3 := hx331_3
                      have hw331_2 := hx331_2
                      have hw331_1 := hx331_1
                      have hw331_0 := hx331_0
                      obtain rfl : ad329 = ad331 := (by injection e331)
                      replace hx331_0 := (HB.out.cell (World.block_lt_of_cell? w _ hx331_0)).trans hx331_0
                      replace hx331_1 := (HB.out.cell (World.block_lt_of_cell? w _ hx331_1)).trans hx331_1
                      replace hx331_2 := (HB.out.cell (World.block_lt_of_cell? w _ hx331_2)).trans hx331_2
                      replace hx331_3 := (HB.out.cell (World.block_lt_of_cell? w _ hx331_3)).trans hx331_3
                      replace hx331_4 := (HB.out.cell (World.block_lt_of_cell? w _ hx331_4)).trans hx331_4
                      replace hx331_5 := (HB.out.cell (World.block_lt_of_cell? w _ hx331_5)).trans hx331_5
                      have HR331_5 := Aside0.mk hi331_5
                      have HC331_5 := Aside0.mk hl331_5
                      clear hi331_5 hl331_5
                      replace p331 := eq_true p331
                      replace q331 := eq_true q331
                      have ea_ := Option.some.inj (hx329_5.symm.trans hx331_5)
                      injection ea_ with ea_ en_ ec_
                      subst ea_
                      subst ec_
                      clear en_
                      have p332 : 0 ≤ (x5_1 : Int) := of_decide_eq_true (by first | (with_reducible assumption) | assumption)
                      have q332 : x5_1 < (l1.length : Int) := of_decide_eq_true (by first | (with_reducible assumption) | assumption)
                      obtain ⟨ad332, A332_5, c332_5, e332, hx332_0, hx332_1, hx332_2, hx332_3, hx332_4, hx332_5, hl332_5, hi332_5⟩ := at_T39 HR1.out x5_1 p332 q332
                      have hw332_5 := hx332_5
                      have hw332_4 := hx332_4
                      have hw332_3 := hx332_3
                      have hw332_2 := hx332_2
                      have hw332_1 := hx332_1
                      have hw332_0 := hx332_0
                      obtain rfl : ad330 = ad332 := (by injection e332)
                      replace hx332_0 := (HB.out.cell (World.block_lt_of_cell? w _ hx332_0)).trans hx332_0
                      replace hx332_1 := (HB.out.cell (World.block_lt_of_cell? w _ hx332_1)).trans hx332_1
                      replace hx332_2 := (HB.out.cell (World.block_lt_of_cell? w _ hx332_2)).trans hx332_2
                      replace hx332_3 := (HB.out.cell (World.block_lt_of_cell? w _ hx332_3)).trans hx332_3
                      replace hx332_4 := (HB.out.cell (World.block_lt_of_cell? w _ hx332_4)).trans hx332_4
                      replace hx332_5 := (HB.out.cell (World.block_lt_of_cell? w _ hx332_5)).trans hx332_5
                      have HR332_5 := Aside0.mk hi332_5
                      have HC332_5 := Aside0.mk hl332_5
                      clear hi332_5 hl332_5
                      replace p332 := eq_true p332
                      replace q332 := eq_true q332
                      have ea_ := Option.some.inj (hx330_5.symm.trans hx332_5)
                      injection ea_ with ea_ en_ ec_
                      subst ea_
                      subst ec_
                      clear en_
                      have p333 : 0 ≤ (x5_1 : Int) := of_decide_eq_true (by first | (with_reducible assumption) | assumption)
                      have q333 : x5_1 < (l0.length : Int) := of_decide_eq_true (by first | (with_reducible assumption) | assumption)
                      obtain ⟨ad333, A333_5, c333_5, e333, hx333_0, hx333_1, hx333_2, hx333_3, hx333_4, hx333_5, hl333_5, hi333_5⟩ := at_T39 HR0.out x5_1 p333 q333
                      have hw333_5 := hx333_5
                      have hw333_4 := hx333_4
                      have hw333_3 := hx333_3
                      have hw333_2 := hx333_2
                      have hw333_1 := hx333_1
                      have hw333_0 := hx333_0
                      obtain rfl : ad329 = ad333 := (by injection e333)
                      replace hx333_0 := (HB.out.cell (World.block_lt_of_cell? w _ hx333_0)).trans hx333_0
                      replace hx333_1 := (HB.out.cell (World.block_lt_of_cell? w _ hx333_1)).trans hx333_1
                      replace hx333_2 := (HB.out.cell (World.block_lt_of_cell? w _ hx333_2)).trans hx333_2
                      replace hx333_3 := (HB.out.cell (World.block_lt_of_cell? w _ hx333_3)).trans hx333_3
                      replace hx333_4 := (HB.out.cell (World.block_lt_of_cell? w _ hx333_4)).trans hx333_4
                      replace hx333_5 := (HB.out.cell (World.block_lt_of_cell? w _ hx333_5)).trans hx333_5
                      have HR333_5 := Aside0.mk hi333_5
                      have HC333_5 := Aside0.mk hl333_5
                      clear hi333_5 hl333_5
                      replace p333 := eq_true p333
                      replace q333 := eq_true q333
                      have ea_ := Option.some.inj (hx329_5.symm.trans hx333_5)
                      injection ea_ with ea_ en_ ec_
                      subst ea_
                      subst ec_
                      clear en_
                      have p334 : 0 ≤ (x5_1 : Int) := of_decide_eq_true (by first | (with_reducible assumption) | assumption)
                      have q334 : x5_1 < (l1.length : Int) := of_decide_eq_true (by first | (with_reducible assumption) | assumption)
                      obtain ⟨ad334, A334_5, c334_5, e334, hx334_0, hx334_1, hx334_2, hx334_3, hx334_4, hx334_5, hl334_5, hi334_5⟩ := at_T39 HR1.out x5_1 p334 q334
                      have hw334_5 := hx334_5
                      have hw334_4 := hx334_4
                      have hw334_3 := hx334_3
                      have hw334_2 := hx334_2
                      have hw334_1 := hx334_1
                      have hw334_0 := hx334_0
                      obtain rfl : ad330 = ad334 := (by injection e334)
                      replace hx334_0 := (HB.out.cell (World.block_lt_of_cell? w _ hx334_0)).trans hx334_0
                      replace hx334_1 := (HB.out.cell (World.block_lt_of_cell? w _ hx334_1)).trans hx334_1
                      replace hx334_2 := (HB.out.cell (World.block_lt_of_cell? w _ hx334_2)).trans hx334_2
                      replace hx334_3 := (HB.out.cell (World.block_lt_of_cell? w _ hx334_3)).trans hx334_3
                      replace hx334_4 := (HB.out.cell (World.block_lt_of_cell? w _ hx334_4)).trans hx334_4
                      replace hx334_5 := (HB.out.cell (World.block_lt_of_cell? w _ hx334_5)).trans hx334_5
                      have HR334_5 := Aside0.mk hi334_5
                      have HC334_5 := Aside0.mk hl334_5
                      clear hi334_5 hl334_5
                      replace p334 := eq_true p334
                      replace q334 := eq_true q334
                      have ea_ := Option.some.inj (hx330_5.symm.trans hx334_5)
                      injection ea_ with ea_ en_ ec_
                      subst ea_
                      subst ec_
                      clear en_
                      have p335 : 0 ≤ (x5_1 : Int) := of_decide_eq_true (by first | (with_reducible assumption) | assumption)
                      have q335 : x5_1 < (l0.length : Int) := of_decide_eq_true (by first | (with_reducible assumption) | assumption)
                      obtain ⟨ad335, A335_5, c335_5, e335, hx335_0, hx335_1, hx335_2, hx335_3, hx335_4, hx335_5, hl335_5, hi335_5⟩ := at_T39 HR0.out x5_1 p335 q335
                      have hw335_5 := hx335_5
                      have hw335_4 := hx335_4
                      have hw335_3 := hx335_3
                      have hw335_2 := hx335_2
                      have hw335_1 := hx335_1
                      have hw335_0 := hx335_0
                      obtain rfl : ad329 = ad335 := (by injection e335)
                      replace hx335_0 := (HB.out.cell (World.block_lt_of_cell? w _ hx335_0)).trans hx335_0
                      replace hx335_1 := (HB.out.cell (World.block_lt_of_cell? w _ hx335_1)).trans hx335_1
                      replace hx335_2 := (HB.out.cell (World.block_lt_of_cell? w _ hx335_2)).trans hx335_2
                      replace hx335_3 := (HB.out.cell (World.block_lt_of_cell? w _ hx335_3)).trans hx335_3
                      replace hx335_4 := (HB.out.cell (World.block_lt_of_cell? w _ hx335_4)).trans hx335_4
                      replace hx335_5 := (HB.out.cell (World.block_lt_of_cell? w _ hx335_5)).trans hx335_5
                      have HR335_5 := Aside0.mk hi335_5
                      have HC335_5 := Aside0.mk hl335_5
                      clear hi335_5 hl335_5
                      replace p335 := eq_true p335
                      replace q335 := eq_true q335
                      have ea_ := Option.some.inj (hx329_5.symm.trans hx335_5)
                      injection ea_ with ea_ en_ ec_
                      subst ea_
                      subst ec_
                      clear en_
                      have p336 : 0 ≤ (x5_1 : Int) := of_decide_eq_true (by first | (with_reducible assumption) | assumption)
                      have q336 : x5_1 < (l1.length : Int) := of_decide_eq_true (by first | (with_reducible assumption) | assumption)
                      obtain ⟨ad336, A336_5, c336_5, e336, hx336_0, hx336_1, hx336_2, hx336_3, hx336_4, hx336_5, hl336_5, hi336_5⟩ := at_T39 HR1.out x5_1 p336 q336
                      have hw336_5 := hx336_5
                      have hw336_4 := hx336_4
                      have hw336_3 := hx336_3
                      have hw336_2 := hx336_2
                      have hw336_1 := hx336_1
                      have hw336_0 := hx336_0
                      obtain rfl : ad330 = ad336 := (by injection e336)
                      replace hx336_0 := (HB.out.cell (World.block_lt_of_cell? w _ hx336_0)).trans hx336_0
                      replace hx336_1 := (HB.out.cell (World.block_lt_of_cell? w _ hx336_1)).trans hx336_1
                      replace hx336_2 := (HB.out.cell (World.block_lt_of_cell? w _ hx336_2)).trans hx336_2
                      replace hx336_3 := (HB.out.cell (World.block_lt_of_cell? w _ hx336_3)).trans hx336_3
                      replace hx336_4 := (HB.out.cell (World.block_lt_of_cell? w _ hx336_4)).trans hx336_4
                      replace hx336_5 := (HB.out.cell (World.block_lt_of_cell? w _ hx336_5)).trans hx336_5
                      have HR336_5 := Aside0.mk hi336_5
                      have HC336_5 := Aside0.mk hl336_5
                      clear hi336_5 hl336_5
                      replace p336 := eq_true p336
                      replace q336 := eq_true q336
                      have ea_ := Option.some.inj (hx330_5.symm.trans hx336_5)
                      injection ea_ with ea_ en_ ec_
                      subst ea_
                      subst ec_
                      clear en_
                      refine start_ (n := 51) (S := fun w' => w'.cell? (ad329.add ((x5_1).toNat * 6)) = some (.int .i64 ((rd_T39 l0 x5_1).f0)) ∧ w'.cell? ⟨(ad329.add ((x5_1).toNat * 6)).block, (ad329.add ((x5_1).toNat * 6)).off + 1, none⟩ = some (.int .i64 ((rd_T39 l0 x5_1).f1)) ∧ w'.cell? ⟨(ad329.add ((x5_1).toNat * 6)).block, (ad329.add ((x5_1).toNat * 6)).off + 2, none⟩ = some (.int .i64 ((rd_T39 l0 x5_1).f2)) ∧ w'.cell? ⟨(ad329.add ((x5_1).toNat * 6)).block, (ad329.add ((x5_1).toNat * 6)).off + 3, none⟩ = some (.int .i64 ((rd_T39 l0 x5_1).f3.f0)) ∧ w'.cell? ⟨(ad329.add ((x5_1).toNat * 6)).block, (ad329.add ((x5_1).toNat * 6)).off + 4, none⟩ = some (.int .i64 ((rd_T39 l0 x5_1).f3.f1)) ∧ w'.cell? ⟨(ad329.add ((x5_1).toNat * 6)).block, (ad329.add ((x5_1).toNat * 6)).off + 5, none⟩ = some (.slice A329_5 ((rd_T39 l0 x5_1).f3.f2).length c329_5) ∧ w'.cell? (ad330.add ((x5_1).toNat * 6)) = some (.int .i64 ((rd_T39 l1 x5_1).f0)) ∧ w'.cell? ⟨(ad330.add ((x5_1).toNat * 6)).block, (ad330.add ((x5_1).toNat * 6)).off + 1, none⟩ = some (.int .i64 ((rd_T39 l1 x5_1).f1)) ∧ w'.cell? ⟨(ad330.add ((x5_1).toNat * 6)).block, (ad330.add ((x5_1).toNat * 6)).off + 2, none⟩ = some (.int .i64 ((rd_T39 l1 x5_1).f2)) ∧ w'.cell? ⟨(ad330.add ((x5_1).toNat * 6)).block, (ad330.add ((x5_1).toNat * 6)).off + 3, none⟩ = some (.int .i64 ((rd_T39 l1 x5_1).f3.f0)) ∧ w'.cell? ⟨(ad330.add ((x5_1).toNat * 6)).block, (ad330.add ((x5_1).toNat * 6)).off + 4, none⟩ = some (.int .i64 ((rd_T39 l1 x5_1).f3.f1)) ∧ w'.cell? ⟨(ad330.add ((x5_1).toNat * 6)).block, (ad330.add ((x5_1).toNat * 6)).off + 5, none⟩ = some (.slice A330_5 ((rd_T39 l1 x5_1).f3.f2).length c330_5) ∧ w'.cell? (ad329.add ((x5_1).toNat * 6)) = some (.int .i64 ((rd_T39 l0 x5_1).f0)) ∧ w'.cell? ⟨(ad329.add ((x5_1).toNat * 6)).block, (ad329.add ((x5_1).toNat * 6)).off + 1, none⟩ = some (.int .i64 ((rd_T39 l0 x5_1).f1)) ∧ w'.cell? ⟨(ad329.add ((x5_1).toNat * 6)).block, (ad329.add ((x5_1).toNat * 6)).off + 2, none⟩ = some (.int .i64 ((rd_T39 l0 x5_1).f2)) ∧ w'.cell? ⟨(ad329.add ((x5_1).toNat * 6)).block, (ad329.add ((x5_1).toNat * 6)).off + 3, none⟩ = some (.int .i64 ((rd_T39 l0 x5_1).f3.f0)) ∧ w'.cell? ⟨(ad329.add ((x5_1).toNat * 6)).block, (ad329.add ((x5_1).toNat * 6)).off + 4, none⟩ = some (.int .i64 ((rd_T39 l0 x5_1).f3.f1)) ∧ w'.cell? ⟨(ad329.add ((x5_1).toNat * 6)).block, (ad329.add ((x5_1).toNat * 6)).off + 5, none⟩ = some (.slice A329_5 ((rd_T39 l0 x5_1).f3.f2).length c329_5) ∧ w'.cell? (ad330.add ((x5_1).toNat * 6)) = some (.int .i64 ((rd_T39 l1 x5_1).f0)) ∧ w'.cell? ⟨(ad330.add ((x5_1).toNat * 6)).block, (ad330.add ((x5_1).toNat * 6)).off + 1, none⟩ = some (.int .i64 ((rd_T39 l1 x5_1).f1)) ∧ w'.cell? ⟨(ad330.add ((x5_1).toNat * 6)).block, (ad330.add ((x5_1).toNat * 6)).off + 2, none⟩ = some (.int .i64 ((rd_T39 l1 x5_1).f2)) ∧ w'.cell? ⟨(ad330.add ((x5_1).toNat * 6)).block, (ad330.add ((x5_1).toNat * 6)).off + 3, none⟩ = some (.int .i64 ((rd_T39 l1 x5_1).f3.f0)) ∧ w'.cell? ⟨(ad330.add ((x5_1).toNat * 6)).block, (ad330.add ((x5_1).toNat * 6)).off + 4, none⟩ = some (.int .i64 ((rd_T39 l1 x5_1).f3.f1)) ∧ w'.cell? ⟨(ad330.add ((x5_1).toNat * 6)).block, (ad330.add ((x5_1).toNat * 6)).off + 5, none⟩ = some (.slice A330_5 ((rd_T39 l1 x5_1).f3.f2).length c330_5) ∧ w'.cell? (ad329.add ((x5_1).toNat * 6)) = some (.int .i64 ((rd_T39 l0 x5_1).f0)) ∧ w'.cell? ⟨(ad329.add ((x5_1).toNat * 6)).block, (ad329.add ((x5_1).toNat * 6)).off + 1, none⟩ = some (.int .i64 ((rd_T39 l0 x5_1).f1)) ∧ w'.cell? ⟨(ad329.add ((x5_1).toNat * 6)).block, (ad329.add ((x5_1).toNat * 6)).off + 2, none⟩ = some (.int .i64 ((rd_T39 l0 x5_1).f2)) ∧ w'.cell? ⟨(ad329.add ((x5_1).toNat * 6)).block, (ad329.add ((x5_1).toNat * 6)).off + 3, none⟩ = some (.int .i64 ((rd_T39 l0 x5_1).f3.f0)) ∧ w'.cell? ⟨(ad329.add ((x5_1).toNat * 6)).block, (ad329.add ((x5_1).toNat * 6)).off + 4, none⟩ = some (.int .i64 ((rd_T39 l0 x5_1).f3.f1)) ∧ w'.cell? ⟨(ad329.add ((x5_1).toNat * 6)).block, (ad329.add ((x5_1).toNat * 6)).off + 5, none⟩ = some (.slice A329_5 ((rd_T39 l0 x5_1).f3.f2).length c329_5) ∧ w'.cell? (ad330.add ((x5_1).toNat * 6)) = some (.int .i64 ((rd_T39 l1 x5_1).f0)) ∧ w'.cell? ⟨(ad330.add ((x5_1).toNat * 6)).block, (ad330.add ((x5_1).toNat * 6)).off + 1, none⟩ = some (.int .i64 ((rd_T39 l1 x5_1).f1)) ∧ w'.cell? ⟨(ad330.add ((x5_1).toNat * 6)).block, (ad330.add ((x5_1).toNat * 6)).off + 2, none⟩ = some (.int .i64 ((rd_T39 l1 x5_1).f2)) ∧ w'.cell? ⟨(ad330.add ((x5_1).toNat * 6)).block, (ad330.add ((x5_1).toNat * 6)).off + 3, none⟩ = some (.int .i64 ((rd_T39 l1 x5_1).f3.f0)) ∧ w'.cell? ⟨(ad330.add ((x5_1).toNat * 6)).block, (ad330.add ((x5_1).toNat * 6)).off + 4, none⟩ = some (.int .i64 ((rd_T39 l1 x5_1).f3.f1)) ∧ w'.cell? ⟨(ad330.add ((x5_1).toNat * 6)).block, (ad330.add ((x5_1).toNat * 6)).off + 5, none⟩ = some (.slice A330_5 ((rd_T39 l1 x5_1).f3.f2).length c330_5) ∧ w'.cell? (ad329.add ((x5_1).toNat * 6)) = some (.int .i64 ((rd_T39 l0 x5_1).f0)) ∧ w'.cell? ⟨(ad329.add ((x5_1).toNat * 6)).block, (ad329.add ((x5_1).toNat * 6)).off + 1, none⟩ = some (.int .i64 ((rd_T39 l0 x5_1).f1)) ∧ w'.cell? ⟨(ad329.add ((x5_1).toNat * 6)).block, (ad329.add ((x5_1).toNat * 6)).off + 2, none⟩ = some (.int .i64 ((rd_T39 l0 x5_1).f2)) ∧ w'.cell? ⟨(ad329.add ((x5_1).toNat * 6)).block, (ad329.add ((x5_1).toNat * 6)).off + 3, none⟩ = some (.int .i64 ((rd_T39 l0 x5_1).f3.f0)) ∧ w'.cell? ⟨(ad329.add ((x5_1).toNat * 6)).block, (ad329.add ((x5_1).toNat * 6)).off + 4, none⟩ = some (.int .i64 ((rd_T39 l0 x5_1).f3.f1)) ∧ w'.cell? ⟨(ad329.add ((x5_1).toNat * 6)).block, (ad329.add ((x5_1).toNat * 6)).off + 5, none⟩ = some (.slice A329_5 ((rd_T39 l0 x5_1).f3.f2).length c329_5) ∧ w'.cell? (ad330.add ((x5_1).toNat * 6)) = some (.int .i64 ((rd_T39 l1 x5_1).f0)) ∧ w'.cell? ⟨(ad330.add ((x5_1).toNat * 6)).block, (ad330.add ((x5_1).toNat * 6)).off + 1, none⟩ = some (.int .i64 ((rd_T39 l1 x5_1).f1)) ∧ w'.cell? ⟨(ad330.add ((x5_1).toNat * 6)).block, (ad330.add ((x5_1).toNat * 6)).off + 2, none⟩ = some (.int .i64 ((rd_T39 l1 x5_1).f2)) ∧ w'.cell? ⟨(ad330.add ((x5_1).toNat * 6)).block, (ad330.add ((x5_1).toNat * 6)).off + 3, none⟩ = some (.int .i64 ((rd_T39 l1 x5_1).f3.f0)) ∧ w'.cell? ⟨(ad330.add ((x5_1).toNat * 6)).block, (ad330.add ((x5_1).toNat * 6)).off + 4, none⟩ = some (.int .i64 ((rd_T39 l1 x5_1).f3.f1)) ∧ w'.cell? ⟨(ad330.add ((x5_1).toNat * 6)).block, (ad330.add ((x5_1).toNat * 6)).off + 5, none⟩ = some (.slice A330_5 ((rd_T39 l1 x5_1).f3.f2).length c330_5)) (ds := []) #[false, false, false, false, false, false, false, false, false, false, false, false, false, false, false, false, false, false, false, false, false, false, false, false, false, false, false, false, false, false, false, false, false, false, false, false, false, false, false, false, false, false, false, false, false, false, false, false, false, false, false] (by kernel_rfl) rfl rfl ⟨((HB.out.cell (World.block_lt_of_cell? w _ hw329_0)).trans hw329_0), ((HB.out.cell (World.block_lt_of_cell? w _ hw329_1)).trans hw329_1), ((HB.out.cell (World.block_lt_of_cell? w _ hw329_2)).trans hw329_2), ((HB.out.cell (World.block_lt_of_cell? w _ hw329_3)).trans hw329_3), ((HB.out.cell (World.block_lt_of_cell? w _ hw329_4)).trans hw329_4), ((HB.out.cell (World.block_lt_of_cell? w _ hw329_5)).trans hw329_5), ((HB.out.cell (World.block_lt_of_cell? w _ hw330_0)).trans hw330_0), ((HB.out.cell (World.block_lt_of_cell? w _ hw330_1)).trans hw330_1), ((HB.out.cell (World.block_lt_of_cell? w _ hw330_2)).trans hw330_2), ((HB.out.cell (World.block_lt_of_cell? w _ hw330_3)).trans hw330_3), ((HB.out.cell (World.block_lt_of_cell? w _ hw330_4)).trans hw330_4), ((HB.out.cell (World.block_lt_of_cell? w _ hw330_5)).trans hw330_5), ((HB.out.cell (World.block_lt_of_cell? w _ hw331_0)).trans hw331_0), ((HB.out.cell (World.block_lt_of_cell? w _ hw331_1)).trans hw331_1), ((HB.out.cell (World.block_lt_of_cell? w _ hw331_2)).trans hw331_2), ((HB.out.cell (World.block_lt_of_cell? w _ hw331_3)).trans hw331_3), ((HB.out.cell (World.block_lt_of_cell? w _ hw331_4)).trans hw331_4), ((HB.out.cell (World.block_lt_of_cell? w _ hw331_5)).trans hw331_5), ((HB.out.cell (World.block_lt_of_cell? w _ hw332_0)).trans hw332_0), ((HB.out.cell (World.block_lt_of_cell? w _ hw332_1)).trans hw332_1), ((HB.out.cell (World.block_lt_of_cell? w _ hw332_2)).trans hw332_2), ((HB.out.cell (World.block_lt_of_cell? w _ hw332_3)).trans hw332_3), ((HB.out.cell (World.block_lt_of_cell? w _ hw332_4)).trans hw332_4), ((HB.out.cell (World.block_lt_of_cell? w _ hw332_5)).trans hw332_5), ((HB.out.cell (World.block_lt_of_cell? w _ hw333_0)).trans hw333_0), ((HB.out.cell (World.block_lt_of_cell? w _ hw333_1)).trans hw333_1), ((HB.out.cell (World.block_lt_of_cell? w _ hw333_2)).trans hw333_2), ((HB.out.cell (World.block_lt_of_cell? w _ hw333_3)).trans hw333_3), ((HB.out.cell (World.block_lt_of_cell? w _ hw333_4)).trans hw333_4), ((HB.out.cell (World.block_lt_of_cell? w _ hw333_5)).trans hw333_5), ((HB.out.cell (World.block_lt_of_cell? w _ hw334_0)).trans hw334_0), ((HB.out.cell (World.block_lt_of_cell? w _ hw334_1)).trans hw334_1), ((HB.out.cell (World.block_lt_of_cell? w _ hw334_2)).trans hw334_2), ((HB.out.cell (World.block_lt_of_cell? w _ hw334_3)).trans hw334_3), ((HB.out.cell (World.block_lt_of_cell? w _ hw334_4)).trans hw334_4), ((HB.out.cell (World.block_lt_of_cell? w _ hw334_5)).trans hw334_5), ((HB.out.cell (World.block_lt_of_cell? w _ hw335_0)).trans hw335_0), ((HB.out.cell (World.block_lt_of_cell? w _ hw335_1)).trans hw335_1), ((HB.out.cell (World.block_lt_of_cell? w _ hw335_2)).trans hw335_2), ((HB.out.cell (World.block_lt_of_cell? w _ hw335_3)).trans hw335_3), ((HB.out.cell (World.block_lt_of_cell? w _ hw335_4)).trans hw335_4), ((HB.out.cell (World.block_lt_of_cell? w _ hw335_5)).trans hw335_5), ((HB.out.cell (World.block_lt_of_cell? w _ hw336_0)).trans hw336_0), ((HB.out.cell (World.block_lt_of_cell? w _ hw336_1)).trans hw336_1), ((HB.out.cell (World.block_lt_of_cell? w _ hw336_2)).trans hw336_2), ((HB.out.cell (World.block_lt_of_cell? w _ hw336_3)).trans hw336_3), ((HB.out.cell (World.block_lt_of_cell? w _ hw336_4)).trans hw336_4), ((HB.out.cell (World.block_lt_of_cell? w _ hw336_5)).trans hw336_5)⟩ (fun hHeld => ?_); refine with_tabW watchmanref18_Same.tab6 watchmanref18_Same.bits6 (fun HT_ HW_ => ?_)
                      generalize wr.drew = w12 at HB HR329_5 HR330_5 HR331_5 HR332_5 HR333_5 HR334_5 HR335_5 HR336_5 hx329_0 hx329_1 hx329_2 hx329_3 hx329_4 hx329_5 hx330_0 hx330_1 hx330_2 hx330_3 hx330_4 hx330_5 hx331_0 hx331_1 hx331_2 hx331_3 hx331_4 hx331_5 hx332_0 hx332_1 hx332_2 hx332_3 hx332_4 hx332_5 hx333_0 hx333_1 hx333_2 hx333_3 hx333_4 hx333_5 hx334_0 hx334_1 hx334_2 hx334_3 hx334_4 hx334_5 hx335_0 hx335_1 hx335_2 hx335_3 hx335_4 hx335_5 hx336_0 hx336_1 hx336_2 hx336_3 hx336_4 hx336_5 hHeld ⊢
                      have Q_ := Qs.mk (n := 51) [(0, 0, 17, 1), (0, 1, 18, 3), (0, 2, 19, 7), (0, 3, 20, 15), (0, 5, 22, 47), (0, 6, 23, 111), (0, 7, 24, 239), (0, 8, 25, 495), (2, 4, 21, 511), (2, 9, 26, 1023), (0, 10, 27, 2047), (0, 11, 28, 4095), (0, 12, 29, 8191), (0, 13, 30, 16383), (0, 14, 31, 32767), (0, 15, 32, 65535), (0, 17, 34, 196607), (0, 18, 35, 458751), (0, 19, 36, 983039), (0, 20, 37, 2031615), (2, 16, 33, 2097151), (2, 21, 38, 4194303), (0, 22, 39, 8388607), (0, 23, 40, 16777215), (0, 24, 41, 33554431), (0, 25, 42, 67108863), (0, 26, 43, 134217727), (0, 27, 44, 268435455), (0, 28, 45, 536870911), (0, 30, 47, 1610612735), (0, 31, 48, 3758096383), (0, 32, 49, 8053063679), (0, 33, 50, 16642998271), (2, 29, 46, 17179869183), (2, 34, 51, 34359738367), (0, 35, 52, 68719476735), (0, 36, 53, 137438953471), (0, 37, 54, 274877906943), (0, 38, 55, 549755813887), (0, 39, 56, 1099511627775), (0, 40, 57, 2199023255551), (0, 41, 58, 4398046511103), (0, 43, 60, 13194139533311), (0, 44, 61, 30786325577727), (0, 45, 62, 65970697666559), (0, 46, 63, 136339441844223), (2, 42, 59, 140737488355327), (2, 47, 64, 281474976710655)]
                      iterate 48 (first | (obtain ⟨q_, Q_⟩ := Qs.p Q_; refine pureQ_ q_ (v := ?_) (a' := ?_) rfl rfl (any_of HT_.out (by kernel_rfl)) (fun _ _ _ h => h) (Or.inl ⟨by rfl, ?_⟩) ?_ ?_; rotate_left; (intro w'; go_simp; with_reducible rfl); rotate_left; (simp only [Act.put, List.setIfInBounds_toArray, List.set_cons_zero, List.set_cons_succ, i64_w, i32_w]; rfl)) | (obtain ⟨q_, Q_⟩ := Qs.t Q_; refine takeQ_ q_ (v := ?_) (a' := ?_) rfl rfl (take_ofW HT_.out HW_.out (by kernel_rfl)) (fun _ _ _ h => h) (Or.inl ⟨by rfl, ?_⟩) hHeld ?_ ?_; rotate_left; (rintro w' ⟨s0, s1, s2, s3, s4, s5, s6, s7, s8, s9, s10, s11, s12, s13, s14, s15, s16, s17, s18, s19, s20, s21, s22, s23, s24, s25, s26, s27, s28, s29, s30, s31, s32, s33, s34, s35, s36, s37, s38, s39, s40, s41, s42, s43, s44, s45, s46, s47⟩; go_simp; with_reducible rfl); rotate_left; (simp only [Act.put, List.setIfInBounds_toArray, List.set_cons_zero, List.set_cons_succ, i64_w, i32_w]; rfl)))
                      clear Q_
                      refine one_ (i := 48) (N := some 65) (dn_ 49 51) rfl rfl (one_of HT_.out (by kernel_rfl)) (by decide) (fun K hK => ?_)
                      refine goes_ Try.func13 (by kernel_rfl) rfl #[.agg #[.int .i64 ((rd_T39 l0 x5_1).f3.f0), .int .i64 ((rd_T39 l0 x5_1).f3.f1), .slice A329_5 ((rd_T39 l0 x5_1).f3.f2).length c329_5], .agg #[.int .i64 ((rd_T39 l1 x5_1).f3.f0), .int .i64 ((rd_T39 l1 x5_1).f3.f1), .slice A330_5 ((rd_T39 l1 x5_1).f3.f2).length c330_5]] (by rfl) rfl rfl (by (try simp only [List.map_toArray, List.map_cons, List.map_nil]); first | done | rfl | (simp only [List.length_drop, List.length_take]; rfl)) ?_
                      with_reducible refine (watchmanref18_SameAnswer.calls k1 ((rd_T39 l0 x5_1).f3.f0) ((rd_T39 l0 x5_1).f3.f1) _ _ ((rd_T39 l0 x5_1).f3.f2) ((rd_T39 l1 x5_1).f3.f0) ((rd_T39 l1 x5_1).f3.f1) _ _ ((rd_T39 l1 x5_1).f3.f2) true _ ?side1 ?side2 ?side3 ?side4 A10.out).mono ?_
                      (case side1 => repeat (first | exact (Kd.C_below HR335_5.out HB.out) | (with_reducible refine Kd.C_alloc ?_ _) | (with_reducible refine Kd.C_drewN ?_ _) | (with_reducible refine Kd.C_drew ?_)))
                      (case side2 => exact HC335_5.out)
                      (case side3 => repeat (first | exact (Kd.C_below HR336_5.out HB.out) | (with_reducible refine Kd.C_alloc ?_ _) | (with_reducible refine Kd.C_drewN ?_ _) | (with_reducible refine Kd.C_drew ?_)))
                      (case side4 => exact HC336_5.out)
                      rintro e w13 ⟨rfl, hb⟩
                      refine ⟨_, rfl, ?_⟩
                      replace HB := Aside0.mk (below_step (by repeat (first | (with_reducible first | exact HB.out | apply below_alloc | apply pw_below_drewN | apply below_drew1) | exact HB.out)) hb)
                      (try clear hb)
                      (try clear hb2)
                      (try clear hk)
                      (try clear hi)
                      refine hK.out _ _ ⟨((HB.out.cell (World.block_lt_of_cell? w _ hw329_0)).trans hw329_0), ((HB.out.cell (World.block_lt_of_cell? w _ hw329_1)).trans hw329_1), ((HB.out.cell (World.block_lt_of_cell? w _ hw329_2)).trans hw329_2), ((HB.out.cell (World.block_lt_of_cell? w _ hw329_3)).trans hw329_3), ((HB.out.cell (World.block_lt_of_cell? w _ hw329_4)).trans hw329_4), ((HB.out.cell (World.block_lt_of_cell? w _ hw329_5)).trans hw329_5), ((HB.out.cell (World.block_lt_of_cell? w _ hw330_0)).trans hw330_0), ((HB.out.cell (World.block_lt_of_cell? w _ hw330_1)).trans hw330_1), ((HB.out.cell (World.block_lt_of_cell? w _ hw330_2)).trans hw330_2), ((HB.out.cell (World.block_lt_of_cell? w _ hw330_3)).trans hw330_3), ((HB.out.cell (World.block_lt_of_cell? w _ hw330_4)).trans hw330_4), ((HB.out.cell (World.block_lt_of_cell? w _ hw330_5)).trans hw330_5), ((HB.out.cell (World.block_lt_of_cell? w _ hw331_0)).trans hw331_0), ((HB.out.cell (World.block_lt_of_cell? w _ hw331_1)).trans hw331_1), ((HB.out.cell (World.block_lt_of_cell? w _ hw331_2)).trans hw331_2), ((HB.out.cell (World.block_lt_of_cell? w _ hw331_3)).trans hw331_3), ((HB.out.cell (World.block_lt_of_cell? w _ hw331_4)).trans hw331_4), ((HB.out.cell (World.block_lt_of_cell? w _ hw331_5)).trans hw331_5), ((HB.out.cell (World.block_lt_of_cell? w _ hw332_0)).trans hw332_0), ((HB.out.cell (World.block_lt_of_cell? w _ hw332_1)).trans hw332_1), ((HB.out.cell (World.block_lt_of_cell? w _ hw332_2)).trans hw332_2), ((HB.out.cell (World.block_lt_of_cell? w _ hw332_3)).trans hw332_3), ((HB.out.cell (World.block_lt_of_cell? w _ hw332_4)).trans hw332_4), ((HB.out.cell (World.block_lt_of_cell? w _ hw332_5)).trans hw332_5), ((HB.out.cell (World.block_lt_of_cell? w _ hw333_0)).trans hw333_0), ((HB.out.cell (World.block_lt_of_cell? w _ hw333_1)).trans hw333_1), ((HB.out.cell (World.block_lt_of_cell? w _ hw333_2)).trans hw333_2), ((HB.out.cell (World.block_lt_of_cell? w _ hw333_3)).trans hw333_3), ((HB.out.cell (World.block_lt_of_cell? w _ hw333_4)).trans hw333_4), ((HB.out.cell (World.block_lt_of_cell? w _ hw333_5)).trans hw333_5), ((HB.out.cell (World.block_lt_of_cell? w _ hw334_0)).trans hw334_0), ((HB.out.cell (World.block_lt_of_cell? w _ hw334_1)).trans hw334_1), ((HB.out.cell (World.block_lt_of_cell? w _ hw334_2)).trans hw334_2), ((HB.out.cell (World.block_lt_of_cell? w _ hw334_3)).trans hw334_3), ((HB.out.cell (World.block_lt_of_cell? w _ hw334_4)).trans hw334_4), ((HB.out.cell (World.block_lt_of_cell? w _ hw334_5)).trans hw334_5), ((HB.out.cell (World.block_lt_of_cell? w _ hw335_0)).trans hw335_0), ((HB.out.cell (World.block_lt_of_cell? w _ hw335_1)).trans hw335_1), ((HB.out.cell (World.block_lt_of_cell? w _ hw335_2)).trans hw335_2), ((HB.out.cell (World.block_lt_of_cell? w _ hw335_3)).trans hw335_3), ((HB.out.cell (World.block_lt_of_cell? w _ hw335_4)).trans hw335_4), ((HB.out.cell (World.block_lt_of_cell? w _ hw335_5)).trans hw335_5), ((HB.out.cell (World.block_lt_of_cell? w _ hw336_0)).trans hw336_0), ((HB.out.cell (World.block_lt_of_cell? w _ hw336_1)).trans hw336_1), ((HB.out.cell (World.block_lt_of_cell? w _ hw336_2)).trans hw336_2), ((HB.out.cell (World.block_lt_of_cell? w _ hw336_3)).trans hw336_3), ((HB.out.cell (World.block_lt_of_cell? w _ hw336_4)).trans hw336_4), ((HB.out.cell (World.block_lt_of_cell? w _ hw336_5)).trans hw336_5)⟩ (fun hHeld => ?_)
                      clear hK K
                      refine norm_ (a' := ?_) ?_ ?_
                      rotate_left
                      · show Act.put _ (some 65) _ = _
                        simp only [Act.put, List.setIfInBounds_toArray, List.set_cons_zero, List.set_cons_succ, i64_w, i32_w]
                        rfl
                      refine pure_ (i := 49) (N := some 66) (v := ?_) (a' := ?_) (dn_ 50 51) rfl rfl (any_of HT_.out (by kernel_rfl)) (fun _ _ _ h => h) (Or.inl ⟨by rfl, ?_⟩) ?_ ?_
                      rotate_left
                      · intro w'
                        go_simp
                        with_reducible rfl
                      rotate_left; (simp only [Act.put, List.setIfInBounds_toArray, List.set_cons_zero, List.set_cons_succ, i64_w, i32_w]; rfl)
                      refine pure_ (i := 50) (N := some 67) (v := ?_) (a' := ?_) #[true, true, true, true, true, true, true, true, true, true, true, true, true, true, true, true, true, true, true, true, true, true, true, true, true, true, true, true, true, true, true, true, true, true, true, true, true, true, true, true, true, true, true, true, true, true, true, true, true, true, true] rfl rfl (any_of HT_.out (by kernel_rfl)) (fun _ _ _ h => h) (Or.inl ⟨by rfl, ?_⟩) ?_ ?_
                      rotate_left
                      · intro w'
                        go_simp
                        with_reducible rfl
                      rotate_left; (simp only [Act.put, List.setIfInBounds_toArray, List.set_cons_zero, List.set_cons_succ, i64_w, i32_w]; rfl)
                      refine done_ (done_of HT_.out (by kernel_rfl)) ?_
                      try go_wp2
                      go_roundg k1
                      case measure => have := HK1.out; omega
                      case rel => exact ⟨(wrap64 (x5_1 + 1)), (by first | rfl | (simp; done) | (simp [*]; done)), H', ⟨by have := HK1.out; omega⟩, ⟨by repeat (first | (with_reducible first | exact HB.out | apply below_alloc | apply pw_below_drewN | apply below_drew1) | exact HB.out)⟩⟩
                    · replace c11 := Bool.eq_false_iff.mpr c11
                      subst c11
                      have H1 : (some false) = some r := by rw [if_neg (show ¬ (false = true) by decide)] at H; exact H
                      clear H
                      have H := H1
                      clear H1
                      obtain rfl := Option.some.inj H
                      try go_wp2
                      replace HB := Aside0.mk (below_drew1 HB.out)
                      have p329 : 0 ≤ (x5_1 : Int) := of_decide_eq_true (by first | (with_reducible assumption) | assumption)
                      have q329 : x5_1 < (l0.length : Int) := of_decide_eq_true (by first | (with_reducible assumption) | assumption)
                      obtain ⟨ad329, A329_5, c329_5, e329, hx329_0, hx329_1, hx329_2, hx329_3, hx329_4, hx329_5, hl329_5, hi329_5⟩ := at_T39 HR0.out x5_1 p329 q329
                      have hw329_5 := hx329_5
                      have hw329_4 := hx329_4
                      have hw329_3 := hx329_3
                      have hw329_2 := hx329_2
                      have hw329_1 := hx329_1
                      have hw329_0 := hx329_0
                      cases e329
                      replace hx329_0 := (HB.out.cell (World.block_lt_of_cell? w _ hx329_0)).trans hx329_0
                      replace hx329_1 := (HB.out.cell (World.block_lt_of_cell? w _ hx329_1)).trans hx329_1
                      replace hx329_2 := (HB.out.cell (World.block_lt_of_cell? w _ hx329_2)).trans hx329_2
                      replace hx329_3 := (HB.out.cell (World.block_lt_of_cell? w _ hx329_3)).trans hx329_3
                      replace hx329_4 := (HB.out.cell (World.block_lt_of_cell? w _ hx329_4)).trans hx329_4
                      replace hx329_5 := (HB.out.cell (World.block_lt_of_cell? w _ hx329_5)).trans hx329_5
                      have HR329_5 := Aside0.mk hi329_5
                      have HC329_5 := Aside0.mk hl329_5
                      clear hi329_5 hl329_5
                      replace p329 := eq_true p329
                      replace q329 := eq_true q329
                      have p330 : 0 ≤ (x5_1 : Int) := of_decide_eq_true (by first | (with_reducible assumption) | assumption)
                      have q330 : x5_1 < (l1.length : Int) := of_decide_eq_true (by first | (with_reducible assumption) | assumption)
                      obtain ⟨ad330, A330_5, c330_5, e330, hx330_0, hx330_1, hx330_2, hx330_3, hx330_4, hx330_5, hl330_5, hi330_5⟩ := at_T39 HR1.out x5_1 p330 q330
                      have hw330_5 := hx330_5
                      have hw330_4 := hx330_4
                      have hw330_3 := hx330_3
                      have hw330_2 := hx330_2
                      have hw330_1 := hx330_1
                      have hw330_0 := hx330_0
                      cases e330
                      replace hx330_0 := (HB.out.cell (World.block_lt_of_cell? w _ hx330_0)).trans hx330_0
                      replace hx330_1 := (HB.out.cell (World.block_lt_of_cell? w _ hx330_1)).trans hx330_1
                      replace hx330_2 := (HB.out.cell (World.block_lt_of_cell? w _ hx330_2)).trans hx330_2
                      replace hx330_3 := (HB.out.cell (World.block_lt_of_cell? w _ hx330_3)).trans hx330_3
                      replace hx330_4 := (HB.out.cell (World.block_lt_of_cell? w _ hx330_4)).trans hx330_4
                      replace hx330_5 := (HB.out.cell (World.block_lt_of_cell? w _ hx330_5)).trans hx330_5
                      have HR330_5 := Aside0.mk hi330_5
                      have HC330_5 := Aside0.mk hl330_5
                      clear hi330_5 hl330_5
                      replace p330 := eq_true p330
                      replace q330 := eq_true q330
                      have p331 : 0 ≤ (x5_1 : Int) := of_decide_eq_true (by first | (with_reducible assumption) | assumption)
                      have q331 : x5_1 < (l0.length : Int) := of_decide_eq_true (by first | (with_reducible assumption) | assumption)
                      obtain ⟨ad331, A331_5, c331_5, e331, hx331_0, hx331_1, hx331_2, hx331_3, hx331_4, hx331_5, hl331_5, hi331_5⟩ := at_T39 HR0.out x5_1 p331 q331
                      have hw331_5 := hx331_5
                      have hw331_4 := hx331_4
                      have hw331_3 := hx331_3
                      have hw331_2 := hx331_2
                      have hw331_1 := hx331_1
                      have hw331_0 := hx331_0
                      obtain rfl : ad329 = ad331 := (by injection e331)
                      replace hx331_0 := (HB.out.cell (World.block_lt_of_cell? w _ hx331_0)).trans hx331_0
                      replace hx331_1 := (HB.out.cell (World.block_lt_of_cell? w _ hx331_1)).trans hx331_1
                      replace hx331_2 := (HB.out.cell (World.block_lt_of_cell? w _ hx331_2)).trans hx331_2
                      replace hx331_3 := (HB.out.cell (World.block_lt_of_cell? w _ hx331_3)).trans hx331_3
                      replace hx331_4 := (HB.out.cell (World.block_lt_of_cell? w _ hx331_4)).trans hx331_4
                      replace hx331_5 := (HB.out.cell (World.block_lt_of_cell? w _ hx331_5)).trans hx331_5
                      have HR331_5 := Aside0.mk hi331_5
                      have HC331_5 := Aside0.mk hl331_5
                      clear hi331_5 hl331_5
                      replace p331 := eq_true p331
                      replace q331 := eq_true q331
                      have ea_ := Option.some.inj (hx329_5.symm.trans hx331_5)
                      injection ea_ with ea_ en_ ec_
                      subst ea_
                      subst ec_
                      clear en_
                      have p332 : 0 ≤ (x5_1 : Int) := of_decide_eq_true (by first | (with_reducible assumption) | assumption)
                      have q332 : x5_1 < (l1.length : Int) := of_decide_eq_true (by first | (with_reducible assumption) | assumption)
                      obtain ⟨ad332, A332_5, c332_5, e332, hx332_0, hx332_1, hx332_2, hx332_3, hx332_4, hx332_5, hl332_5, hi332_5⟩ := at_T39 HR1.out x5_1 p332 q332
                      have hw332_5 := hx332_5
                      have hw332_4 := hx332_4
                      have hw332_3 := hx332_3
                      have hw332_2 := hx332_2
                      have hw332_1 := hx332_1
                      have hw332_0 := hx332_0
                      obtain rfl : ad330 = ad332 := (by injection e332)
                      replace hx332_0 := (HB.out.cell (World.block_lt_of_cell? w _ hx332_0)).trans hx332_0
                      replace hx332_1 := (HB.out.cell (World.block_lt_of_cell? w _ hx332_1)).trans hx332_1
                      replace hx332_2 := (HB.out.cell (World.block_lt_of_cell? w _ hx332_2)).trans hx332_2
                      replace hx332_3 := (HB.out.cell (World.block_lt_of_cell? w _ hx332_3)).trans hx332_3
                      replace hx332_4 := (HB.out.cell (World.block_lt_of_cell? w _ hx332_4)).trans hx332_4
                      replace hx332_5 := (HB.out.cell (World.block_lt_of_cell? w _ hx332_5)).trans hx332_5
                      have HR332_5 := Aside0.mk hi332_5
                      have HC332_5 := Aside0.mk hl332_5
                      clear hi332_5 hl332_5
                      replace p332 := eq_true p332
                      replace q332 := eq_true q332
                      have ea_ := Option.some.inj (hx330_5.symm.trans hx332_5)
                      injection ea_ with ea_ en_ ec_
                      subst ea_
                      subst ec_
                      clear en_
                      have p333 : 0 ≤ (x5_1 : Int) := of_decide_eq_true (by first | (with_reducible assumption) | assumption)
                      have q333 : x5_1 < (l0.length : Int) := of_decide_eq_true (by first | (with_reducible assumption) | assumption)
                      obtain ⟨ad333, A333_5, c333_5, e333, hx333_0, hx333_1, hx333_2, hx333_3, hx333_4, hx333_5, hl333_5, hi333_5⟩ := at_T39 HR0.out x5_1 p333 q333
                      have hw333_5 := hx333_5
                      have hw333_4 := hx333_4
                      have hw333_3 := hx333_3
                      have hw333_2 := hx333_2
                      have hw333_1 := hx333_1
                      have hw333_0 := hx333_0
                      obtain rfl : ad329 = ad333 := (by injection e333)
                      replace hx333_0 := (HB.out.cell (World.block_lt_of_cell? w _ hx333_0)).trans hx333_0
                      replace hx333_1 := (HB.out.cell (World.block_lt_of_cell? w _ hx333_1)).trans hx333_1
                      replace hx333_2 := (HB.out.cell (World.block_lt_of_cell? w _ hx333_2)).trans hx333_2
                      replace hx333_3 := (HB.out.cell (World.block_lt_of_cell? w _ hx333_3)).trans hx333_3
                      replace hx333_4 := (HB.out.cell (World.block_lt_of_cell? w _ hx333_4)).trans hx333_4
                      replace hx333_5 := (HB.out.cell (World.block_lt_of_cell? w _ hx333_5)).trans hx333_5
                      have HR333_5 := Aside0.mk hi333_5
                      have HC333_5 := Aside0.mk hl333_5
                      clear hi333_5 hl333_5
                      replace p333 := eq_true p333
                      replace q333 := eq_true q333
                      have ea_ := Option.some.inj (hx329_5.symm.trans hx333_5)
                      injection ea_ with ea_ en_ ec_
                      subst ea_
                      subst ec_
                      clear en_
                      have p334 : 0 ≤ (x5_1 : Int) := of_decide_eq_true (by first | (with_reducible assumption) | assumption)
                      have q334 : x5_1 < (l1.length : Int) := of_decide_eq_true (by first | (with_reducible assumption) | assumption)
                      obtain ⟨ad334, A334_5, c334_5, e334, hx334_0, hx334_1, hx334_2, hx334_3, hx334_4, hx334_5, hl334_5, hi334_5⟩ := at_T39 HR1.out x5_1 p334 q334
                      have hw334_5 := hx334_5
                      have hw334_4 := hx334_4
                      have hw334_3 := hx334_3
                      have hw334_2 := hx334_2
                      have hw334_1 := hx334_1
                      have hw334_0 := hx334_0
                      obtain rfl : ad330 = ad334 := (by injection e334)
                      replace hx334_0 := (HB.out.cell (World.block_lt_of_cell? w _ hx334_0)).trans hx334_0
                      replace hx334_1 := (HB.out.cell (World.block_lt_of_cell? w _ hx334_1)).trans hx334_1
                      replace hx334_2 := (HB.out.cell (World.block_lt_of_cell? w _ hx334_2)).trans hx334_2
                      replace hx334_3 := (HB.out.cell (World.block_lt_of_cell? w _ hx334_3)).trans hx334_3
                      replace hx334_4 := (HB.out.cell (World.block_lt_of_cell? w _ hx334_4)).trans hx334_4
                      replace hx334_5 := (HB.out.cell (World.block_lt_of_cell? w _ hx334_5)).trans hx334_5
                      have HR334_5 := Aside0.mk hi334_5
                      have HC334_5 := Aside0.mk hl334_5
                      clear hi334_5 hl334_5
                      replace p334 := eq_true p334
                      replace q334 := eq_true q334
                      have ea_ := Option.some.inj (hx330_5.symm.trans hx334_5)
                      injection ea_ with ea_ en_ ec_
                      subst ea_
                      subst ec_
                      clear en_
                      have p335 : 0 ≤ (x5_1 : Int) := of_decide_eq_true (by first | (with_reducible assumption) | assumption)
                      have q335 : x5_1 < (l0.length : Int) := of_decide_eq_true (by first | (with_reducible assumption) | assumption)
                      obtain ⟨ad335, A335_5, c335_5, e335, hx335_0, hx335_1, hx335_2, hx335_3, hx335_4, hx335_5, hl335_5, hi335_5⟩ := at_T39 HR0.out x5_1 p335 q335
                      have hw335_5 := hx335_5
                      have hw335_4 := hx335_4
                      have hw335_3 := hx335_3
                      have hw335_2 := hx335_2
                      have hw335_1 := hx335_1
                      have hw335_0 := hx335_0
                      obtain rfl : ad329 = ad335 := (by injection e335)
                      replace hx335_0 := (HB.out.cell (World.block_lt_of_cell? w _ hx335_0)).trans hx335_0
                      replace hx335_1 := (HB.out.cell (World.block_lt_of_cell? w _ hx335_1)).trans hx335_1
                      replace hx335_2 := (HB.out.cell (World.block_lt_of_cell? w _ hx335_2)).trans hx335_2
                      replace hx335_3 := (HB.out.cell (World.block_lt_of_cell? w _ hx335_3)).trans hx335_3
                      replace hx335_4 := (HB.out.cell (World.block_lt_of_cell? w _ hx335_4)).trans hx335_4
                      replace hx335_5 := (HB.out.cell (World.block_lt_of_cell? w _ hx335_5)).trans hx335_5
                      have HR335_5 := Aside0.mk hi335_5
                      have HC335_5 := Aside0.mk hl335_5
                      clear hi335_5 hl335_5
                      replace p335 := eq_true p335
                      replace q335 := eq_true q335
                      have ea_ := Option.some.inj (hx329_5.symm.trans hx335_5)
                      injection ea_ with ea_ en_ ec_
                      subst ea_
                      subst ec_
                      clear en_
                      have p336 : 0 ≤ (x5_1 : Int) := of_decide_eq_true (by first | (with_reducible assumption) | assumption)
                      have q336 : x5_1 < (l1.length : Int) := of_decide_eq_true (by first | (with_reducible assumption) | assumption)
                      obtain ⟨ad336, A336_5, c336_5, e336, hx336_0, hx336_1, hx336_2, hx336_3, hx336_4, hx336_5, hl336_5, hi336_5⟩ := at_T39 HR1.out x5_1 p336 q336
                      have hw336_5 := hx336_5
                      have hw336_4 := hx336_4
                      have hw336_3 := hx336_3
                      have hw336_2 := hx336_2
                      have hw336_1 := hx336_1
                      have hw336_0 := hx336_0
                      obtain rfl : ad330 = ad336 := (by injection e336)
                      replace hx336_0 := (HB.out.cell (World.block_lt_of_cell? w _ hx336_0)).trans hx336_0
                      replace hx336_1 := (HB.out.cell (World.block_lt_of_cell? w _ hx336_1)).trans hx336_1
                      replace hx336_2 := (HB.out.cell (World.block_lt_of_cell? w _ hx336_2)).trans hx336_2
                      replace hx336_3 := (HB.out.cell (World.block_lt_of_cell? w _ hx336_3)).trans hx336_3
                      replace hx336_4 := (HB.out.cell (World.block_lt_of_cell? w _ hx336_4)).trans hx336_4
                      replace hx336_5 := (HB.out.cell (World.block_lt_of_cell? w _ hx336_5)).trans hx336_5
                      have HR336_5 := Aside0.mk hi336_5
                      have HC336_5 := Aside0.mk hl336_5
                      clear hi336_5 hl336_5
                      replace p336 := eq_true p336
                      replace q336 := eq_true q336
                      have ea_ := Option.some.inj (hx330_5.symm.trans hx336_5)
                      injection ea_ with ea_ en_ ec_
                      subst ea_
                      subst ec_
                      clear en_
                      refine start_ (n := 51) (S := fun w' => w'.cell? (ad329.add ((x5_1).toNat * 6)) = some (.int .i64 ((rd_T39 l0 x5_1).f0)) ∧ w'.cell? ⟨(ad329.add ((x5_1).toNat * 6)).block, (ad329.add ((x5_1).toNat * 6)).off + 1, none⟩ = some (.int .i64 ((rd_T39 l0 x5_1).f1)) ∧ w'.cell? ⟨(ad329.add ((x5_1).toNat * 6)).block, (ad329.add ((x5_1).toNat * 6)).off + 2, none⟩ = some (.int .i64 ((rd_T39 l0 x5_1).f2)) ∧ w'.cell? ⟨(ad329.add ((x5_1).toNat * 6)).block, (ad329.add ((x5_1).toNat * 6)).off + 3, none⟩ = some (.int .i64 ((rd_T39 l0 x5_1).f3.f0)) ∧ w'.cell? ⟨(ad329.add ((x5_1).toNat * 6)).block, (ad329.add ((x5_1).toNat * 6)).off + 4, none⟩ = some (.int .i64 ((rd_T39 l0 x5_1).f3.f1)) ∧ w'.cell? ⟨(ad329.add ((x5_1).toNat * 6)).block, (ad329.add ((x5_1).toNat * 6)).off + 5, none⟩ = some (.slice A329_5 ((rd_T39 l0 x5_1).f3.f2).length c329_5) ∧ w'.cell? (ad330.add ((x5_1).toNat * 6)) = some (.int .i64 ((rd_T39 l1 x5_1).f0)) ∧ w'.cell? ⟨(ad330.add ((x5_1).toNat * 6)).block, (ad330.add ((x5_1).toNat * 6)).off + 1, none⟩ = some (.int .i64 ((rd_T39 l1 x5_1).f1)) ∧ w'.cell? ⟨(ad330.add ((x5_1).toNat * 6)).block, (ad330.add ((x5_1).toNat * 6)).off + 2, none⟩ = some (.int .i64 ((rd_T39 l1 x5_1).f2)) ∧ w'.cell? ⟨(ad330.add ((x5_1).toNat * 6)).block, (ad330.add ((x5_1).toNat * 6)).off + 3, none⟩ = some (.int .i64 ((rd_T39 l1 x5_1).f3.f0)) ∧ w'.cell? ⟨(ad330.add ((x5_1).toNat * 6)).block, (ad330.add ((x5_1).toNat * 6)).off + 4, none⟩ = some (.int .i64 ((rd_T39 l1 x5_1).f3.f1)) ∧ w'.cell? ⟨(ad330.add ((x5_1).toNat * 6)).block, (ad330.add ((x5_1).toNat * 6)).off + 5, none⟩ = some (.slice A330_5 ((rd_T39 l1 x5_1).f3.f2).length c330_5) ∧ w'.cell? (ad329.add ((x5_1).toNat * 6)) = some (.int .i64 ((rd_T39 l0 x5_1).f0)) ∧ w'.cell? ⟨(ad329.add ((x5_1).toNat * 6)).block, (ad329.add ((x5_1).toNat * 6)).off + 1, none⟩ = some (.int .i64 ((rd_T39 l0 x5_1).f1)) ∧ w'.cell? ⟨(ad329.add ((x5_1).toNat * 6)).block, (ad329.add ((x5_1).toNat * 6)).off + 2, none⟩ = some (.int .i64 ((rd_T39 l0 x5_1).f2)) ∧ w'.cell? ⟨(ad329.add ((x5_1).toNat * 6)).block, (ad329.add ((x5_1).toNat * 6)).off + 3, none⟩ = some (.int .i64 ((rd_T39 l0 x5_1).f3.f0)) ∧ w'.cell? ⟨(ad329.add ((x5_1).toNat * 6)).block, (ad329.add ((x5_1).toNat * 6)).off + 4, none⟩ = some (.int .i64 ((rd_T39 l0 x5_1).f3.f1)) ∧ w'.cell? ⟨(ad329.add ((x5_1).toNat * 6)).block, (ad329.add ((x5_1).toNat * 6)).off + 5, none⟩ = some (.slice A329_5 ((rd_T39 l0 x5_1).f3.f2).length c329_5) ∧ w'.cell? (ad330.add ((x5_1).toNat * 6)) = some (.int .i64 ((rd_T39 l1 x5_1).f0)) ∧ w'.cell? ⟨(ad330.add ((x5_1).toNat * 6)).block, (ad330.add ((x5_1).toNat * 6)).off + 1, none⟩ = some (.int .i64 ((rd_T39 l1 x5_1).f1)) ∧ w'.cell? ⟨(ad330.add ((x5_1).toNat * 6)).block, (ad330.add ((x5_1).toNat * 6)).off + 2, none⟩ = some (.int .i64 ((rd_T39 l1 x5_1).f2)) ∧ w'.cell? ⟨(ad330.add ((x5_1).toNat * 6)).block, (ad330.add ((x5_1).toNat * 6)).off + 3, none⟩ = some (.int .i64 ((rd_T39 l1 x5_1).f3.f0)) ∧ w'.cell? ⟨(ad330.add ((x5_1).toNat * 6)).block, (ad330.add ((x5_1).toNat * 6)).off + 4, none⟩ = some (.int .i64 ((rd_T39 l1 x5_1).f3.f1)) ∧ w'.cell? ⟨(ad330.add ((x5_1).toNat * 6)).block, (ad330.add ((x5_1).toNat * 6)).off + 5, none⟩ = some (.slice A330_5 ((rd_T39 l1 x5_1).f3.f2).length c330_5) ∧ w'.cell? (ad329.add ((x5_1).toNat * 6)) = some (.int .i64 ((rd_T39 l0 x5_1).f0)) ∧ w'.cell? ⟨(ad329.add ((x5_1).toNat * 6)).block, (ad329.add ((x5_1).toNat * 6)).off + 1, none⟩ = some (.int .i64 ((rd_T39 l0 x5_1).f1)) ∧ w'.cell? ⟨(ad329.add ((x5_1).toNat * 6)).block, (ad329.add ((x5_1).toNat * 6)).off + 2, none⟩ = some (.int .i64 ((rd_T39 l0 x5_1).f2)) ∧ w'.cell? ⟨(ad329.add ((x5_1).toNat * 6)).block, (ad329.add ((x5_1).toNat * 6)).off + 3, none⟩ = some (.int .i64 ((rd_T39 l0 x5_1).f3.f0)) ∧ w'.cell? ⟨(ad329.add ((x5_1).toNat * 6)).block, (ad329.add ((x5_1).toNat * 6)).off + 4, none⟩ = some (.int .i64 ((rd_T39 l0 x5_1).f3.f1)) ∧ w'.cell? ⟨(ad329.add ((x5_1).toNat * 6)).block, (ad329.add ((x5_1).toNat * 6)).off + 5, none⟩ = some (.slice A329_5 ((rd_T39 l0 x5_1).f3.f2).length c329_5) ∧ w'.cell? (ad330.add ((x5_1).toNat * 6)) = some (.int .i64 ((rd_T39 l1 x5_1).f0)) ∧ w'.cell? ⟨(ad330.add ((x5_1).toNat * 6)).block, (ad330.add ((x5_1).toNat * 6)).off + 1, none⟩ = some (.int .i64 ((rd_T39 l1 x5_1).f1)) ∧ w'.cell? ⟨(ad330.add ((x5_1).toNat * 6)).block, (ad330.add ((x5_1).toNat * 6)).off + 2, none⟩ = some (.int .i64 ((rd_T39 l1 x5_1).f2)) ∧ w'.cell? ⟨(ad330.add ((x5_1).toNat * 6)).block, (ad330.add ((x5_1).toNat * 6)).off + 3, none⟩ = some (.int .i64 ((rd_T39 l1 x5_1).f3.f0)) ∧ w'.cell? ⟨(ad330.add ((x5_1).toNat * 6)).block, (ad330.add ((x5_1).toNat * 6)).off + 4, none⟩ = some (.int .i64 ((rd_T39 l1 x5_1).f3.f1)) ∧ w'.cell? ⟨(ad330.add ((x5_1).toNat * 6)).block, (ad330.add ((x5_1).toNat * 6)).off + 5, none⟩ = some (.slice A330_5 ((rd_T39 l1 x5_1).f3.f2).length c330_5) ∧ w'.cell? (ad329.add ((x5_1).toNat * 6)) = some (.int .i64 ((rd_T39 l0 x5_1).f0)) ∧ w'.cell? ⟨(ad329.add ((x5_1).toNat * 6)).block, (ad329.add ((x5_1).toNat * 6)).off + 1, none⟩ = some (.int .i64 ((rd_T39 l0 x5_1).f1)) ∧ w'.cell? ⟨(ad329.add ((x5_1).toNat * 6)).block, (ad329.add ((x5_1).toNat * 6)).off + 2, none⟩ = some (.int .i64 ((rd_T39 l0 x5_1).f2)) ∧ w'.cell? ⟨(ad329.add ((x5_1).toNat * 6)).block, (ad329.add ((x5_1).toNat * 6)).off + 3, none⟩ = some (.int .i64 ((rd_T39 l0 x5_1).f3.f0)) ∧ w'.cell? ⟨(ad329.add ((x5_1).toNat * 6)).block, (ad329.add ((x5_1).toNat * 6)).off + 4, none⟩ = some (.int .i64 ((rd_T39 l0 x5_1).f3.f1)) ∧ w'.cell? ⟨(ad329.add ((x5_1).toNat * 6)).block, (ad329.add ((x5_1).toNat * 6)).off + 5, none⟩ = some (.slice A329_5 ((rd_T39 l0 x5_1).f3.f2).length c329_5) ∧ w'.cell? (ad330.add ((x5_1).toNat * 6)) = some (.int .i64 ((rd_T39 l1 x5_1).f0)) ∧ w'.cell? ⟨(ad330.add ((x5_1).toNat * 6)).block, (ad330.add ((x5_1).toNat * 6)).off + 1, none⟩ = some (.int .i64 ((rd_T39 l1 x5_1).f1)) ∧ w'.cell? ⟨(ad330.add ((x5_1).toNat * 6)).block, (ad330.add ((x5_1).toNat * 6)).off + 2, none⟩ = some (.int .i64 ((rd_T39 l1 x5_1).f2)) ∧ w'.cell? ⟨(ad330.add ((x5_1).toNat * 6)).block, (ad330.add ((x5_1).toNat * 6)).off + 3, none⟩ = some (.int .i64 ((rd_T39 l1 x5_1).f3.f0)) ∧ w'.cell? ⟨(ad330.add ((x5_1).toNat * 6)).block, (ad330.add ((x5_1).toNat * 6)).off + 4, none⟩ = some (.int .i64 ((rd_T39 l1 x5_1).f3.f1)) ∧ w'.cell? ⟨(ad330.add ((x5_1).toNat * 6)).block, (ad330.add ((x5_1).toNat * 6)).off + 5, none⟩ = some (.slice A330_5 ((rd_T39 l1 x5_1).f3.f2).length c330_5)) (ds := []) #[false, false, false, false, false, false, false, false, false, false, false, false, false, false, false, false, false, false, false, false, false, false, false, false, false, false, false, false, false, false, false, false, false, false, false, false, false, false, false, false, false, false, false, false, false, false, false, false, false, false, false] (by kernel_rfl) rfl rfl ⟨((HB.out.cell (World.block_lt_of_cell? w _ hw329_0)).trans hw329_0), ((HB.out.cell (World.block_lt_of_cell? w _ hw329_1)).trans hw329_1), ((HB.out.cell (World.block_lt_of_cell? w _ hw329_2)).trans hw329_2), ((HB.out.cell (World.block_lt_of_cell? w _ hw329_3)).trans hw329_3), ((HB.out.cell (World.block_lt_of_cell? w _ hw329_4)).trans hw329_4), ((HB.out.cell (World.block_lt_of_cell? w _ hw329_5)).trans hw329_5), ((HB.out.cell (World.block_lt_of_cell? w _ hw330_0)).trans hw330_0), ((HB.out.cell (World.block_lt_of_cell? w _ hw330_1)).trans hw330_1), ((HB.out.cell (World.block_lt_of_cell? w _ hw330_2)).trans hw330_2), ((HB.out.cell (World.block_lt_of_cell? w _ hw330_3)).trans hw330_3), ((HB.out.cell (World.block_lt_of_cell? w _ hw330_4)).trans hw330_4), ((HB.out.cell (World.block_lt_of_cell? w _ hw330_5)).trans hw330_5), ((HB.out.cell (World.block_lt_of_cell? w _ hw331_0)).trans hw331_0), ((HB.out.cell (World.block_lt_of_cell? w _ hw331_1)).trans hw331_1), ((HB.out.cell (World.block_lt_of_cell? w _ hw331_2)).trans hw331_2), ((HB.out.cell (World.block_lt_of_cell? w _ hw331_3)).trans hw331_3), ((HB.out.cell (World.block_lt_of_cell? w _ hw331_4)).trans hw331_4), ((HB.out.cell (World.block_lt_of_cell? w _ hw331_5)).trans hw331_5), ((HB.out.cell (World.block_lt_of_cell? w _ hw332_0)).trans hw332_0), ((HB.out.cell (World.block_lt_of_cell? w _ hw332_1)).trans hw332_1), ((HB.out.cell (World.block_lt_of_cell? w _ hw332_2)).trans hw332_2), ((HB.out.cell (World.block_lt_of_cell? w _ hw332_3)).trans hw332_3), ((HB.out.cell (World.block_lt_of_cell? w _ hw332_4)).trans hw332_4), ((HB.out.cell (World.block_lt_of_cell? w _ hw332_5)).trans hw332_5), ((HB.out.cell (World.block_lt_of_cell? w _ hw333_0)).trans hw333_0), ((HB.out.cell (World.block_lt_of_cell? w _ hw333_1)).trans hw333_1), ((HB.out.cell (World.block_lt_of_cell? w _ hw333_2)).trans hw333_2), ((HB.out.cell (World.block_lt_of_cell? w _ hw333_3)).trans hw333_3), ((HB.out.cell (World.block_lt_of_cell? w _ hw333_4)).trans hw333_4), ((HB.out.cell (World.block_lt_of_cell? w _ hw333_5)).trans hw333_5), ((HB.out.cell (World.block_lt_of_cell? w _ hw334_0)).trans hw334_0), ((HB.out.cell (World.block_lt_of_cell? w _ hw334_1)).trans hw334_1), ((HB.out.cell (World.block_lt_of_cell? w _ hw334_2)).trans hw334_2), ((HB.out.cell (World.block_lt_of_cell? w _ hw334_3)).trans hw334_3), ((HB.out.cell (World.block_lt_of_cell? w _ hw334_4)).trans hw334_4), ((HB.out.cell (World.block_lt_of_cell? w _ hw334_5)).trans hw334_5), ((HB.out.cell (World.block_lt_of_cell? w _ hw335_0)).trans hw335_0), ((HB.out.cell (World.block_lt_of_cell? w _ hw335_1)).trans hw335_1), ((HB.out.cell (World.block_lt_of_cell? w _ hw335_2)).trans hw335_2), ((HB.out.cell (World.block_lt_of_cell? w _ hw335_3)).trans hw335_3), ((HB.out.cell (World.block_lt_of_cell? w _ hw335_4)).trans hw335_4), ((HB.out.cell (World.block_lt_of_cell? w _ hw335_5)).trans hw335_5), ((HB.out.cell (World.block_lt_of_cell? w _ hw336_0)).trans hw336_0), ((HB.out.cell (World.block_lt_of_cell? w _ hw336_1)).trans hw336_1), ((HB.out.cell (World.block_lt_of_cell? w _ hw336_2)).trans hw336_2), ((HB.out.cell (World.block_lt_of_cell? w _ hw336_3)).trans hw336_3), ((HB.out.cell (World.block_lt_of_cell? w _ hw336_4)).trans hw336_4), ((HB.out.cell (World.block_lt_of_cell? w _ hw336_5)).trans hw336_5)⟩ (fun hHeld => ?_); refine with_tabW watchmanref18_Same.tab6 watchmanref18_Same.bits6 (fun HT_ HW_ => ?_)
                      generalize wr.drew = w14 at HB HR329_5 HR330_5 HR331_5 HR332_5 HR333_5 HR334_5 HR335_5 HR336_5 hx329_0 hx329_1 hx329_2 hx329_3 hx329_4 hx329_5 hx330_0 hx330_1 hx330_2 hx330_3 hx330_4 hx330_5 hx331_0 hx331_1 hx331_2 hx331_3 hx331_4 hx331_5 hx332_0 hx332_1 hx332_2 hx332_3 hx332_4 hx332_5 hx333_0 hx333_1 hx333_2 hx333_3 hx333_4 hx333_5 hx334_0 hx334_1 hx334_2 hx334_3 hx334_4 hx334_5 hx335_0 hx335_1 hx335_2 hx335_3 hx335_4 hx335_5 hx336_0 hx336_1 hx336_2 hx336_3 hx336_4 hx336_5 hHeld ⊢
                      have Q_ := Qs.mk (n := 51) [(0, 0, 17, 1), (0, 1, 18, 3), (0, 2, 19, 7), (0, 3, 20, 15), (0, 5, 22, 47), (0, 6, 23, 111), (0, 7, 24, 239), (0, 8, 25, 495), (2, 4, 21, 511), (2, 9, 26, 1023), (0, 10, 27, 2047), (0, 11, 28, 4095), (0, 12, 29, 8191), (0, 13, 30, 16383), (0, 14, 31, 32767), (0, 15, 32, 65535), (0, 17, 34, 196607), (0, 18, 35, 458751), (0, 19, 36, 983039), (0, 20, 37, 2031615), (2, 16, 33, 2097151), (2, 21, 38, 4194303), (0, 22, 39, 8388607), (0, 23, 40, 16777215), (0, 24, 41, 33554431), (0, 25, 42, 67108863), (0, 26, 43, 134217727), (0, 27, 44, 268435455), (0, 28, 45, 536870911), (0, 30, 47, 1610612735), (0, 31, 48, 3758096383), (0, 32, 49, 8053063679), (0, 33, 50, 16642998271), (2, 29, 46, 17179869183), (2, 34, 51, 34359738367), (0, 35, 52, 68719476735), (0, 36, 53, 137438953471), (0, 37, 54, 274877906943), (0, 38, 55, 549755813887), (0, 39, 56, 1099511627775), (0, 40, 57, 2199023255551), (0, 41, 58, 4398046511103), (0, 43, 60, 13194139533311), (0, 44, 61, 30786325577727), (0, 45, 62, 65970697666559), (0, 46, 63, 136339441844223), (2, 42, 59, 140737488355327), (2, 47, 64, 281474976710655)]
                      iterate 48 (first | (obtain ⟨q_, Q_⟩ := Qs.p Q_; refine pureQ_ q_ (v := ?_) (a' := ?_) rfl rfl (any_of HT_.out (by kernel_rfl)) (fun _ _ _ h => h) (Or.inl ⟨by rfl, ?_⟩) ?_ ?_; rotate_left; (intro w'; go_simp; with_reducible rfl); rotate_left; (simp only [Act.put, List.setIfInBounds_toArray, List.set_cons_zero, List.set_cons_succ, i64_w, i32_w]; rfl)) | (obtain ⟨q_, Q_⟩ := Qs.t Q_; refine takeQ_ q_ (v := ?_) (a' := ?_) rfl rfl (take_ofW HT_.out HW_.out (by kernel_rfl)) (fun _ _ _ h => h) (Or.inl ⟨by rfl, ?_⟩) hHeld ?_ ?_; rotate_left; (rintro w' ⟨s0, s1, s2, s3, s4, s5, s6, s7, s8, s9, s10, s11, s12, s13, s14, s15, s16, s17, s18, s19, s20, s21, s22, s23, s24, s25, s26, s27, s28, s29, s30, s31, s32, s33, s34, s35, s36, s37, s38, s39, s40, s41, s42, s43, s44, s45, s46, s47⟩; go_simp; with_reducible rfl); rotate_left; (simp only [Act.put, List.setIfInBounds_toArray, List.set_cons_zero, List.set_cons_succ, i64_w, i32_w]; rfl)))
                      clear Q_
                      refine one_ (i := 48) (N := some 65) (dn_ 49 51) rfl rfl (one_of HT_.out (by kernel_rfl)) (by decide) (fun K hK => ?_)
                      refine goes_ Try.func13 (by kernel_rfl) rfl #[.agg #[.int .i64 ((rd_T39 l0 x5_1).f3.f0), .int .i64 ((rd_T39 l0 x5_1).f3.f1), .slice A329_5 ((rd_T39 l0 x5_1).f3.f2).length c329_5], .agg #[.int .i64 ((rd_T39 l1 x5_1).f3.f0), .int .i64 ((rd_T39 l1 x5_1).f3.f1), .slice A330_5 ((rd_T39 l1 x5_1).f3.f2).length c330_5]] (by rfl) rfl rfl (by (try simp only [List.map_toArray, List.map_cons, List.map_nil]); first | done | rfl | (simp only [List.length_drop, List.length_take]; rfl)) ?_
                      with_reducible refine (watchmanref18_SameAnswer.calls k1 ((rd_T39 l0 x5_1).f3.f0) ((rd_T39 l0 x5_1).f3.f1) _ _ ((rd_T39 l0 x5_1).f3.f2) ((rd_T39 l1 x5_1).f3.f0) ((rd_T39 l1 x5_1).f3.f1) _ _ ((rd_T39 l1 x5_1).f3.f2) false _ ?side1 ?side2 ?side3 ?side4 A10.out).mono ?_
                      (case side1 => repeat (first | exact (Kd.C_below HR335_5.out HB.out) | (with_reducible refine Kd.C_alloc ?_ _) | (with_reducible refine Kd.C_drewN ?_ _) | (with_reducible refine Kd.C_drew ?_)))
                      (case side2 => exact HC335_5.out)
                      (case side3 => repeat (first | exact (Kd.C_below HR336_5.out HB.out) | (with_reducible refine Kd.C_alloc ?_ _) | (with_reducible refine Kd.C_drewN ?_ _) | (with_reducible refine Kd.C_drew ?_)))
                      (case side4 => exact HC336_5.out)
                      rintro e w15 ⟨rfl, hb⟩
                      refine ⟨_, rfl, ?_⟩
                      replace HB := Aside0.mk (below_step (by repeat (first | (with_reducible first | exact HB.out | apply below_alloc | apply pw_below_drewN | apply below_drew1) | exact HB.out)) hb)
                      (try clear hb)
                      (try clear hb2)
                      (try clear hk)
                      (try clear hi)
                      refine hK.out _ _ ⟨((HB.out.cell (World.block_lt_of_cell? w _ hw329_0)).trans hw329_0), ((HB.out.cell (World.block_lt_of_cell? w _ hw329_1)).trans hw329_1), ((HB.out.cell (World.block_lt_of_cell? w _ hw329_2)).trans hw329_2), ((HB.out.cell (World.block_lt_of_cell? w _ hw329_3)).trans hw329_3), ((HB.out.cell (World.block_lt_of_cell? w _ hw329_4)).trans hw329_4), ((HB.out.cell (World.block_lt_of_cell? w _ hw329_5)).trans hw329_5), ((HB.out.cell (World.block_lt_of_cell? w _ hw330_0)).trans hw330_0), ((HB.out.cell (World.block_lt_of_cell? w _ hw330_1)).trans hw330_1), ((HB.out.cell (World.block_lt_of_cell? w _ hw330_2)).trans hw330_2), ((HB.out.cell (World.block_lt_of_cell? w _ hw330_3)).trans hw330_3), ((HB.out.cell (World.block_lt_of_cell? w _ hw330_4)).trans hw330_4), ((HB.out.cell (World.block_lt_of_cell? w _ hw330_5)).trans hw330_5), ((HB.out.cell (World.block_lt_of_cell? w _ hw331_0)).trans hw331_0), ((HB.out.cell (World.block_lt_of_cell? w _ hw331_1)).trans hw331_1), ((HB.out.cell (World.block_lt_of_cell? w _ hw331_2)).trans hw331_2), ((HB.out.cell (World.block_lt_of_cell? w _ hw331_3)).trans hw331_3), ((HB.out.cell (World.block_lt_of_cell? w _ hw331_4)).trans hw331_4), ((HB.out.cell (World.block_lt_of_cell? w _ hw331_5)).trans hw331_5), ((HB.out.cell (World.block_lt_of_cell? w _ hw332_0)).trans hw332_0), ((HB.out.cell (World.block_lt_of_cell? w _ hw332_1)).trans hw332_1), ((HB.out.cell (World.block_lt_of_cell? w _ hw332_2)).trans hw332_2), ((HB.out.cell (World.block_lt_of_cell? w _ hw332_3)).trans hw332_3), ((HB.out.cell (World.block_lt_of_cell? w _ hw332_4)).trans hw332_4), ((HB.out.cell (World.block_lt_of_cell? w _ hw332_5)).trans hw332_5), ((HB.out.cell (World.block_lt_of_cell? w _ hw333_0)).trans hw333_0), ((HB.out.cell (World.block_lt_of_cell? w _ hw333_1)).trans hw333_1), ((HB.out.cell (World.block_lt_of_cell? w _ hw333_2)).trans hw333_2), ((HB.out.cell (World.block_lt_of_cell? w _ hw333_3)).trans hw333_3), ((HB.out.cell (World.block_lt_of_cell? w _ hw333_4)).trans hw333_4), ((HB.out.cell (World.block_lt_of_cell? w _ hw333_5)).trans hw333_5), ((HB.out.cell (World.block_lt_of_cell? w _ hw334_0)).trans hw334_0), ((HB.out.cell (World.block_lt_of_cell? w _ hw334_1)).trans hw334_1), ((HB.out.cell (World.block_lt_of_cell? w _ hw334_2)).trans hw334_2), ((HB.out.cell (World.block_lt_of_cell? w _ hw334_3)).trans hw334_3), ((HB.out.cell (World.block_lt_of_cell? w _ hw334_4)).trans hw334_4), ((HB.out.cell (World.block_lt_of_cell? w _ hw334_5)).trans hw334_5), ((HB.out.cell (World.block_lt_of_cell? w _ hw335_0)).trans hw335_0), ((HB.out.cell (World.block_lt_of_cell? w _ hw335_1)).trans hw335_1), ((HB.out.cell (World.block_lt_of_cell? w _ hw335_2)).trans hw335_2), ((HB.out.cell (World.block_lt_of_cell? w _ hw335_3)).trans hw335_3), ((HB.out.cell (World.block_lt_of_cell? w _ hw335_4)).trans hw335_4), ((HB.out.cell (World.block_lt_of_cell? w _ hw335_5)).trans hw335_5), ((HB.out.cell (World.block_lt_of_cell? w _ hw336_0)).trans hw336_0), ((HB.out.cell (World.block_lt_of_cell? w _ hw336_1)).trans hw336_1), ((HB.out.cell (World.block_lt_of_cell? w _ hw336_2)).trans hw336_2), ((HB.out.cell (World.block_lt_of_cell? w _ hw336_3)).trans hw336_3), ((HB.out.cell (World.block_lt_of_cell? w _ hw336_4)).trans hw336_4), ((HB.out.cell (World.block_lt_of_cell? w _ hw336_5)).trans hw336_5)⟩ (fun hHeld => ?_)
                      clear hK K
                      refine norm_ (a' := ?_) ?_ ?_
                      rotate_left
                      · show Act.put _ (some 65) _ = _
                        simp only [Act.put, List.setIfInBounds_toArray, List.set_cons_zero, List.set_cons_succ, i64_w, i32_w]
                        rfl
                      refine pure_ (i := 49) (N := some 66) (v := ?_) (a' := ?_) (dn_ 50 51) rfl rfl (any_of HT_.out (by kernel_rfl)) (fun _ _ _ h => h) (Or.inl ⟨by rfl, ?_⟩) ?_ ?_
                      rotate_left
                      · intro w'
                        go_simp
                        with_reducible rfl
                      rotate_left; (simp only [Act.put, List.setIfInBounds_toArray, List.set_cons_zero, List.set_cons_succ, i64_w, i32_w]; rfl)
                      refine pure_ (i := 50) (N := some 67) (v := ?_) (a' := ?_) #[true, true, true, true, true, true, true, true, true, true, true, true, true, true, true, true, true, true, true, true, true, true, true, true, true, true, true, true, true, true, true, true, true, true, true, true, true, true, true, true, true, true, true, true, true, true, true, true, true, true, true] rfl rfl (any_of HT_.out (by kernel_rfl)) (fun _ _ _ h => h) (Or.inl ⟨by rfl, ?_⟩) ?_ ?_
                      rotate_left
                      · intro w'
                        go_simp
                        with_reducible rfl
                      rotate_left; (simp only [Act.put, List.setIfInBounds_toArray, List.set_cons_zero, List.set_cons_succ, i64_w, i32_w]; rfl)
                      refine done_ (done_of HT_.out (by kernel_rfl)) ?_
                      try go_wp2
                      go_ret
                      exact ⟨by first | rfl | (simp [errW_none, errW_some] <;> rfl) | (simp [*, errW_none, errW_some] <;> rfl), by repeat (first | (with_reducible first | exact HB.out | apply below_alloc | apply pw_below_drewN | apply below_drew1) | exact HB.out)⟩
                  · rw [if_neg c9] at H
                    have c9b0 : (((rd_T39 l0 x5_1).f2) == ((rd_T39 l1 x5_1).f2)) = false := beq_eq_false_iff_ne.mpr c9
                    have c9b1 : (((rd_T39 l0 x5_1).f2) != ((rd_T39 l1 x5_1).f2)) = true := bne_iff_ne.mpr c9
                    obtain rfl := Option.some.inj H
                    try go_wp2
                    replace HB := Aside0.mk (below_drew1 HB.out)
                    have p329 : 0 ≤ (x5_1 : Int) := of_decide_eq_true (by first | (with_reducible assumption) | assumption)
                    have q329 : x5_1 < (l0.length : Int) := of_decide_eq_true (by first | (with_reducible assumption) | assumption)
                    obtain ⟨ad329, A329_5, c329_5, e329, hx329_0, hx329_1, hx329_2, hx329_3, hx329_4, hx329_5, hl329_5, hi329_5⟩ := at_T39 HR0.out x5_1 p329 q329
                    have hw329_5 := hx329_5
                    have hw329_4 := hx329_4
                    have hw329_3 := hx329_3
                    have hw329_2 := hx329_2
                    have hw329_1 := hx329_1
                    have hw329_0 := hx329_0
                    cases e329
                    replace hx329_0 := (HB.out.cell (World.block_lt_of_cell? w _ hx329_0)).trans hx329_0
                    replace hx329_1 := (HB.out.cell (World.block_lt_of_cell? w _ hx329_1)).trans hx329_1
                    replace hx329_2 := (HB.out.cell (World.block_lt_of_cell? w _ hx329_2)).trans hx329_2
                    replace hx329_3 := (HB.out.cell (World.block_lt_of_cell? w _ hx329_3)).trans hx329_3
                    replace hx329_4 := (HB.out.cell (World.block_lt_of_cell? w _ hx329_4)).trans hx329_4
                    replace hx329_5 := (HB.out.cell (World.block_lt_of_cell? w _ hx329_5)).trans hx329_5
                    have HR329_5 := Aside0.mk hi329_5
                    have HC329_5 := Aside0.mk hl329_5
                    clear hi329_5 hl329_5
                    replace p329 := eq_true p329
                    replace q329 := eq_true q329
                    have p330 : 0 ≤ (x5_1 : Int) := of_decide_eq_true (by first | (with_reducible assumption) | assumption)
                    have q330 : x5_1 < (l1.length : Int) := of_decide_eq_true (by first | (with_reducible assumption) | assumption)
                    obtain ⟨ad330, A330_5, c330_5, e330, hx330_0, hx330_1, hx330_2, hx330_3, hx330_4, hx330_5, hl330_5, hi330_5⟩ := at_T39 HR1.out x5_1 p330 q330
                    have hw330_5 := hx330_5
                    have hw330_4 := hx330_4
                    have hw330_3 := hx330_3
                    have hw330_2 := hx330_2
                    have hw330_1 := hx330_1
                    have hw330_0 := hx330_0
                    cases e330
                    replace hx330_0 := (HB.out.cell (World.block_lt_of_cell? w _ hx330_0)).trans hx330_0
                    replace hx330_1 := (HB.out.cell (World.block_lt_of_cell? w _ hx330_1)).trans hx330_1
                    replace hx330_2 := (HB.out.cell (World.block_lt_of_cell? w _ hx330_2)).trans hx330_2
                    replace hx330_3 := (HB.out.cell (World.block_lt_of_cell? w _ hx330_3)).trans hx330_3
                    replace hx330_4 := (HB.out.cell (World.block_lt_of_cell? w _ hx330_4)).trans hx330_4
                    replace hx330_5 := (HB.out.cell (World.block_lt_of_cell? w _ hx330_5)).trans hx330_5
                    have HR330_5 := Aside0.mk hi330_5
                    have HC330_5 := Aside0.mk hl330_5
                    clear hi330_5 hl330_5
                    replace p330 := eq_true p330
                    replace q330 := eq_true q330
                    have p331 : 0 ≤ (x5_1 : Int) := of_decide_eq_true (by first | (with_reducible assumption) | assumption)
                    have q331 : x5_1 < (l0.length : Int) := of_decide_eq_true (by first | (with_reducible assumption) | assumption)
                    obtain ⟨ad331, A331_5, c331_5, e331, hx331_0, hx331_1, hx331_2, hx331_3, hx331_4, hx331_5, hl331_5, hi331_5⟩ := at_T39 HR0.out x5_1 p331 q331
                    have hw331_5 := hx331_5
                    have hw331_4 := hx331_4
                    have hw331_3 := hx331_3
                    have hw331_2 := hx331_2
                    have hw331_1 := hx331_1
                    have hw331_0 := hx331_0
                    obtain rfl : ad329 = ad331 := (by injection e331)
                    replace hx331_0 := (HB.out.cell (World.block_lt_of_cell? w _ hx331_0)).trans hx331_0
                    replace hx331_1 := (HB.out.cell (World.block_lt_of_cell? w _ hx331_1)).trans hx331_1
                    replace hx331_2 := (HB.out.cell (World.block_lt_of_cell? w _ hx331_2)).trans hx331_2
                    replace hx331_3 := (HB.out.cell (World.block_lt_of_cell? w _ hx331_3)).trans hx331_3
                    replace hx331_4 := (HB.out.cell (World.block_lt_of_cell? w _ hx331_4)).trans hx331_4
                    replace hx331_5 := (HB.out.cell (World.block_lt_of_cell? w _ hx331_5)).trans hx331_5
                    have HR331_5 := Aside0.mk hi331_5
                    have HC331_5 := Aside0.mk hl331_5
                    clear hi331_5 hl331_5
                    replace p331 := eq_true p331
                    replace q331 := eq_true q331
                    have ea_ := Option.some.inj (hx329_5.symm.trans hx331_5)
                    injection ea_ with ea_ en_ ec_
                    subst ea_
                    subst ec_
                    clear en_
                    have p332 : 0 ≤ (x5_1 : Int) := of_decide_eq_true (by first | (with_reducible assumption) | assumption)
                    have q332 : x5_1 < (l1.length : Int) := of_decide_eq_true (by first | (with_reducible assumption) | assumption)
                    obtain ⟨ad332, A332_5, c332_5, e332, hx332_0, hx332_1, hx332_2, hx332_3, hx332_4, hx332_5, hl332_5, hi332_5⟩ := at_T39 HR1.out x5_1 p332 q332
                    have hw332_5 := hx332_5
                    have hw332_4 := hx332_4
                    have hw332_3 := hx332_3
                    have hw332_2 := hx332_2
                    have hw332_1 := hx332_1
                    have hw332_0 := hx332_0
                    obtain rfl : ad330 = ad332 := (by injection e332)
                    replace hx332_0 := (HB.out.cell (World.block_lt_of_cell? w _ hx332_0)).trans hx332_0
                    replace hx332_1 := (HB.out.cell (World.block_lt_of_cell? w _ hx332_1)).trans hx332_1
                    replace hx332_2 := (HB.out.cell (World.block_lt_of_cell? w _ hx332_2)).trans hx332_2
                    replace hx332_3 := (HB.out.cell (World.block_lt_of_cell? w _ hx332_3)).trans hx332_3
                    replace hx332_4 := (HB.out.cell (World.block_lt_of_cell? w _ hx332_4)).trans hx332_4
                    replace hx332_5 := (HB.out.cell (World.block_lt_of_cell? w _ hx332_5)).trans hx332_5
                    have HR332_5 := Aside0.mk hi332_5
                    have HC332_5 := Aside0.mk hl332_5
                    clear hi332_5 hl332_5
                    replace p332 := eq_true p332
                    replace q332 := eq_true q332
                    have ea_ := Option.some.inj (hx330_5.symm.trans hx332_5)
                    injection ea_ with ea_ en_ ec_
                    subst ea_
                    subst ec_
                    clear en_
                    have p333 : 0 ≤ (x5_1 : Int) := of_decide_eq_true (by first | (with_reducible assumption) | assumption)
                    have q333 : x5_1 < (l0.length : Int) := of_decide_eq_true (by first | (with_reducible assumption) | assumption)
                    obtain ⟨ad333, A333_5, c333_5, e333, hx333_0, hx333_1, hx333_2, hx333_3, hx333_4, hx333_5, hl333_5, hi333_5⟩ := at_T39 HR0.out x5_1 p333 q333
                    have hw333_5 := hx333_5
                    have hw333_4 := hx333_4
                    have hw333_3 := hx333_3
                    have hw333_2 := hx333_2
                    have hw333_1 := hx333_1
                    have hw333_0 := hx333_0
                    obtain rfl : ad329 = ad333 := (by injection e333)
                    replace hx333_0 := (HB.out.cell (World.block_lt_of_cell? w _ hx333_0)).trans hx333_0
                    replace hx333_1 := (HB.out.cell (World.block_lt_of_cell? w _ hx333_1)).trans hx333_1
                    replace hx333_2 := (HB.out.cell (World.block_lt_of_cell? w _ hx333_2)).trans hx333_2
                    replace hx333_3 := (HB.out.cell (World.block_lt_of_cell? w _ hx333_3)).trans hx333_3
                    replace hx333_4 := (HB.out.cell (World.block_lt_of_cell? w _ hx333_4)).trans hx333_4
                    replace hx333_5 := (HB.out.cell (World.block_lt_of_cell? w _ hx333_5)).trans hx333_5
                    have HR333_5 := Aside0.mk hi333_5
                    have HC333_5 := Aside0.mk hl333_5
                    clear hi333_5 hl333_5
                    replace p333 := eq_true p333
                    replace q333 := eq_true q333
                    have ea_ := Option.some.inj (hx329_5.symm.trans hx333_5)
                    injection ea_ with ea_ en_ ec_
                    subst ea_
                    subst ec_
                    clear en_
                    have p334 : 0 ≤ (x5_1 : Int) := of_decide_eq_true (by first | (with_reducible assumption) | assumption)
                    have q334 : x5_1 < (l1.length : Int) := of_decide_eq_true (by first | (with_reducible assumption) | assumption)
                    obtain ⟨ad334, A334_5, c334_5, e334, hx334_0, hx334_1, hx334_2, hx334_3, hx334_4, hx334_5, hl334_5, hi334_5⟩ := at_T39 HR1.out x5_1 p334 q334
                    have hw334_5 := hx334_5
                    have hw334_4 := hx334_4
                    have hw334_3 := hx334_3
                    have hw334_2 := hx334_2
                    have hw334_1 := hx334_1
                    have hw334_0 := hx334_0
                    obtain rfl : ad330 = ad334 := (by injection e334)
                    replace hx334_0 := (HB.out.cell (World.block_lt_of_cell? w _ hx334_0)).trans hx334_0
                    replace hx334_1 := (HB.out.cell (World.block_lt_of_cell? w _ hx334_1)).trans hx334_1
                    replace hx334_2 := (HB.out.cell (World.block_lt_of_cell? w _ hx334_2)).trans hx334_2
                    replace hx334_3 := (HB.out.cell (World.block_lt_of_cell? w _ hx334_3)).trans hx334_3
                    replace hx334_4 := (HB.out.cell (World.block_lt_of_cell? w _ hx334_4)).trans hx334_4
                    replace hx334_5 := (HB.out.cell (World.block_lt_of_cell? w _ hx334_5)).trans hx334_5
                    have HR334_5 := Aside0.mk hi334_5
                    have HC334_5 := Aside0.mk hl334_5
                    clear hi334_5 hl334_5
                    replace p334 := eq_true p334
                    replace q334 := eq_true q334
                    have ea_ := Option.some.inj (hx330_5.symm.trans hx334_5)
                    injection ea_ with ea_ en_ ec_
                    subst ea_
                    subst ec_
                    clear en_
                    refine start_ (n := 51) (S := fun w' => w'.cell? (ad329.add ((x5_1).toNat * 6)) = some (.int .i64 ((rd_T39 l0 x5_1).f0)) ∧ w'.cell? ⟨(ad329.add ((x5_1).toNat * 6)).block, (ad329.add ((x5_1).toNat * 6)).off + 1, none⟩ = some (.int .i64 ((rd_T39 l0 x5_1).f1)) ∧ w'.cell? ⟨(ad329.add ((x5_1).toNat * 6)).block, (ad329.add ((x5_1).toNat * 6)).off + 2, none⟩ = some (.int .i64 ((rd_T39 l0 x5_1).f2)) ∧ w'.cell? ⟨(ad329.add ((x5_1).toNat * 6)).block, (ad329.add ((x5_1).toNat * 6)).off + 3, none⟩ = some (.int .i64 ((rd_T39 l0 x5_1).f3.f0)) ∧ w'.cell? ⟨(ad329.add ((x5_1).toNat * 6)).block, (ad329.add ((x5_1).toNat * 6)).off + 4, none⟩ = some (.int .i64 ((rd_T39 l0 x5_1).f3.f1)) ∧ w'.cell? ⟨(ad329.add ((x5_1).toNat * 6)).block, (ad329.add ((x5_1).toNat * 6)).off + 5, none⟩ = some (.slice A329_5 ((rd_T39 l0 x5_1).f3.f2).length c329_5) ∧ w'.cell? (ad330.add ((x5_1).toNat * 6)) = some (.int .i64 ((rd_T39 l1 x5_1).f0)) ∧ w'.cell? ⟨(ad330.add ((x5_1).toNat * 6)).block, (ad330.add ((x5_1).toNat * 6)).off + 1, none⟩ = some (.int .i64 ((rd_T39 l1 x5_1).f1)) ∧ w'.cell? ⟨(ad330.add ((x5_1).toNat * 6)).block, (ad330.add ((x5_1).toNat * 6)).off + 2, none⟩ = some (.int .i64 ((rd_T39 l1 x5_1).f2)) ∧ w'.cell? ⟨(ad330.add ((x5_1).toNat * 6)).block, (ad330.add ((x5_1).toNat * 6)).off + 3, none⟩ = some (.int .i64 ((rd_T39 l1 x5_1).f3.f0)) ∧ w'.cell? ⟨(ad330.add ((x5_1).toNat * 6)).block, (ad330.add ((x5_1).toNat * 6)).off + 4, none⟩ = some (.int .i64 ((rd_T39 l1 x5_1).f3.f1)) ∧ w'.cell? ⟨(ad330.add ((x5_1).toNat * 6)).block, (ad330.add ((x5_1).toNat * 6)).off + 5, none⟩ = some (.slice A330_5 ((rd_T39 l1 x5_1).f3.f2).length c330_5) ∧ w'.cell? (ad329.add ((x5_1).toNat * 6)) = some (.int .i64 ((rd_T39 l0 x5_1).f0)) ∧ w'.cell? ⟨(ad329.add ((x5_1).toNat * 6)).block, (ad329.add ((x5_1).toNat * 6)).off + 1, none⟩ = some (.int .i64 ((rd_T39 l0 x5_1).f1)) ∧ w'.cell? ⟨(ad329.add ((x5_1).toNat * 6)).block, (ad329.add ((x5_1).toNat * 6)).off + 2, none⟩ = some (.int .i64 ((rd_T39 l0 x5_1).f2)) ∧ w'.cell? ⟨(ad329.add ((x5_1).toNat * 6)).block, (ad329.add ((x5_1).toNat * 6)).off + 3, none⟩ = some (.int .i64 ((rd_T39 l0 x5_1).f3.f0)) ∧ w'.cell? ⟨(ad329.add ((x5_1).toNat * 6)).block, (ad329.add ((x5_1).toNat * 6)).off + 4, none⟩ = some (.int .i64 ((rd_T39 l0 x5_1).f3.f1)) ∧ w'.cell? ⟨(ad329.add ((x5_1).toNat * 6)).block, (ad329.add ((x5_1).toNat * 6)).off + 5, none⟩ = some (.slice A329_5 ((rd_T39 l0 x5_1).f3.f2).length c329_5) ∧ w'.cell? (ad330.add ((x5_1).toNat * 6)) = some (.int .i64 ((rd_T39 l1 x5_1).f0)) ∧ w'.cell? ⟨(ad330.add ((x5_1).toNat * 6)).block, (ad330.add ((x5_1).toNat * 6)).off + 1, none⟩ = some (.int .i64 ((rd_T39 l1 x5_1).f1)) ∧ w'.cell? ⟨(ad330.add ((x5_1).toNat * 6)).block, (ad330.add ((x5_1).toNat * 6)).off + 2, none⟩ = some (.int .i64 ((rd_T39 l1 x5_1).f2)) ∧ w'.cell? ⟨(ad330.add ((x5_1).toNat * 6)).block, (ad330.add ((x5_1).toNat * 6)).off + 3, none⟩ = some (.int .i64 ((rd_T39 l1 x5_1).f3.f0)) ∧ w'.cell? ⟨(ad330.add ((x5_1).toNat * 6)).block, (ad330.add ((x5_1).toNat * 6)).off + 4, none⟩ = some (.int .i64 ((rd_T39 l1 x5_1).f3.f1)) ∧ w'.cell? ⟨(ad330.add ((x5_1).toNat * 6)).block, (ad330.add ((x5_1).toNat * 6)).off + 5, none⟩ = some (.slice A330_5 ((rd_T39 l1 x5_1).f3.f2).length c330_5) ∧ w'.cell? (ad329.add ((x5_1).toNat * 6)) = some (.int .i64 ((rd_T39 l0 x5_1).f0)) ∧ w'.cell? ⟨(ad329.add ((x5_1).toNat * 6)).block, (ad329.add ((x5_1).toNat * 6)).off + 1, none⟩ = some (.int .i64 ((rd_T39 l0 x5_1).f1)) ∧ w'.cell? ⟨(ad329.add ((x5_1).toNat * 6)).block, (ad329.add ((x5_1).toNat * 6)).off + 2, none⟩ = some (.int .i64 ((rd_T39 l0 x5_1).f2)) ∧ w'.cell? ⟨(ad329.add ((x5_1).toNat * 6)).block, (ad329.add ((x5_1).toNat * 6)).off + 3, none⟩ = some (.int .i64 ((rd_T39 l0 x5_1).f3.f0)) ∧ w'.cell? ⟨(ad329.add ((x5_1).toNat * 6)).block, (ad329.add ((x5_1).toNat * 6)).off + 4, none⟩ = some (.int .i64 ((rd_T39 l0 x5_1).f3.f1)) ∧ w'.cell? ⟨(ad329.add ((x5_1).toNat * 6)).block, (ad329.add ((x5_1).toNat * 6)).off + 5, none⟩ = some (.slice A329_5 ((rd_T39 l0 x5_1).f3.f2).length c329_5) ∧ w'.cell? (ad330.add ((x5_1).toNat * 6)) = some (.int .i64 ((rd_T39 l1 x5_1).f0)) ∧ w'.cell? ⟨(ad330.add ((x5_1).toNat * 6)).block, (ad330.add ((x5_1).toNat * 6)).off + 1, none⟩ = some (.int .i64 ((rd_T39 l1 x5_1).f1)) ∧ w'.cell? ⟨(ad330.add ((x5_1).toNat * 6)).block, (ad330.add ((x5_1).toNat * 6)).off + 2, none⟩ = some (.int .i64 ((rd_T39 l1 x5_1).f2)) ∧ w'.cell? ⟨(ad330.add ((x5_1).toNat * 6)).block, (ad330.add ((x5_1).toNat * 6)).off + 3, none⟩ = some (.int .i64 ((rd_T39 l1 x5_1).f3.f0)) ∧ w'.cell? ⟨(ad330.add ((x5_1).toNat * 6)).block, (ad330.add ((x5_1).toNat * 6)).off + 4, none⟩ = some (.int .i64 ((rd_T39 l1 x5_1).f3.f1)) ∧ w'.cell? ⟨(ad330.add ((x5_1).toNat * 6)).block, (ad330.add ((x5_1).toNat * 6)).off + 5, none⟩ = some (.slice A330_5 ((rd_T39 l1 x5_1).f3.f2).length c330_5)) (ds := []) #[false, false, false, false, false, false, false, false, false, false, false, false, false, false, false, false, false, false, false, false, false, false, false, false, false, false, false, false, false, false, false, false, false, false, false, false, false, false, false, false, false, false, false, false, false, false, false, false, false, false, false] (by kernel_rfl) rfl rfl ⟨((HB.out.cell (World.block_lt_of_cell? w _ hw329_0)).trans hw329_0), ((HB.out.cell (World.block_lt_of_cell? w _ hw329_1)).trans hw329_1), ((HB.out.cell (World.block_lt_of_cell? w _ hw329_2)).trans hw329_2), ((HB.out.cell (World.block_lt_of_cell? w _ hw329_3)).trans hw329_3), ((HB.out.cell (World.block_lt_of_cell? w _ hw329_4)).trans hw329_4), ((HB.out.cell (World.block_lt_of_cell? w _ hw329_5)).trans hw329_5), ((HB.out.cell (World.block_lt_of_cell? w _ hw330_0)).trans hw330_0), ((HB.out.cell (World.block_lt_of_cell? w _ hw330_1)).trans hw330_1), ((HB.out.cell (World.block_lt_of_cell? w _ hw330_2)).trans hw330_2), ((HB.out.cell (World.block_lt_of_cell? w _ hw330_3)).trans hw330_3), ((HB.out.cell (World.block_lt_of_cell? w _ hw330_4)).trans hw330_4), ((HB.out.cell (World.block_lt_of_cell? w _ hw330_5)).trans hw330_5), ((HB.out.cell (World.block_lt_of_cell? w _ hw331_0)).trans hw331_0), ((HB.out.cell (World.block_lt_of_cell? w _ hw331_1)).trans hw331_1), ((HB.out.cell (World.block_lt_of_cell? w _ hw331_2)).trans hw331_2), ((HB.out.cell (World.block_lt_of_cell? w _ hw331_3)).trans hw331_3), ((HB.out.cell (World.block_lt_of_cell? w _ hw331_4)).trans hw331_4), ((HB.out.cell (World.block_lt_of_cell? w _ hw331_5)).trans hw331_5), ((HB.out.cell (World.block_lt_of_cell? w _ hw332_0)).trans hw332_0), ((HB.out.cell (World.block_lt_of_cell? w _ hw332_1)).trans hw332_1), ((HB.out.cell (World.block_lt_of_cell? w _ hw332_2)).trans hw332_2), ((HB.out.cell (World.block_lt_of_cell? w _ hw332_3)).trans hw332_3), ((HB.out.cell (World.block_lt_of_cell? w _ hw332_4)).trans hw332_4), ((HB.out.cell (World.block_lt_of_cell? w _ hw332_5)).trans hw332_5), ((HB.out.cell (World.block_lt_of_cell? w _ hw333_0)).trans hw333_0), ((HB.out.cell (World.block_lt_of_cell? w _ hw333_1)).trans hw333_1), ((HB.out.cell (World.block_lt_of_cell? w _ hw333_2)).trans hw333_2), ((HB.out.cell (World.block_lt_of_cell? w _ hw333_3)).trans hw333_3), ((HB.out.cell (World.block_lt_of_cell? w _ hw333_4)).trans hw333_4), ((HB.out.cell (World.block_lt_of_cell? w _ hw333_5)).trans hw333_5), ((HB.out.cell (World.block_lt_of_cell? w _ hw334_0)).trans hw334_0), ((HB.out.cell (World.block_lt_of_cell? w _ hw334_1)).trans hw334_1), ((HB.out.cell (World.block_lt_of_cell? w _ hw334_2)).trans hw334_2), ((HB.out.cell (World.block_lt_of_cell? w _ hw334_3)).trans hw334_3), ((HB.out.cell (World.block_lt_of_cell? w _ hw334_4)).trans hw334_4), ((HB.out.cell (World.block_lt_of_cell? w _ hw334_5)).trans hw334_5)⟩ (fun hHeld => ?_); refine with_tabW watchmanref18_Same.tab6 watchmanref18_Same.bits6 (fun HT_ HW_ => ?_)
                    generalize wr.drew = w16 at HB HR329_5 HR330_5 HR331_5 HR332_5 HR333_5 HR334_5 hx329_0 hx329_1 hx329_2 hx329_3 hx329_4 hx329_5 hx330_0 hx330_1 hx330_2 hx330_3 hx330_4 hx330_5 hx331_0 hx331_1 hx331_2 hx331_3 hx331_4 hx331_5 hx332_0 hx332_1 hx332_2 hx332_3 hx332_4 hx332_5 hx333_0 hx333_1 hx333_2 hx333_3 hx333_4 hx333_5 hx334_0 hx334_1 hx334_2 hx334_3 hx334_4 hx334_5 hHeld ⊢
                    have Q_ := Qs.mk (n := 51) [(0, 0, 17, 1), (0, 1, 18, 3), (0, 2, 19, 7), (0, 3, 20, 15), (0, 5, 22, 47), (0, 6, 23, 111), (0, 7, 24, 239), (0, 8, 25, 495), (2, 4, 21, 511), (2, 9, 26, 1023), (0, 10, 27, 2047), (0, 11, 28, 4095), (0, 12, 29, 8191), (0, 13, 30, 16383), (0, 14, 31, 32767), (0, 15, 32, 65535), (0, 17, 34, 196607), (0, 18, 35, 458751), (0, 19, 36, 983039), (0, 20, 37, 2031615), (2, 16, 33, 2097151), (2, 21, 38, 4194303), (0, 22, 39, 8388607), (0, 23, 40, 16777215), (0, 24, 41, 33554431), (0, 25, 42, 67108863), (0, 26, 43, 134217727), (0, 27, 44, 268435455), (0, 28, 45, 536870911), (0, 30, 47, 1610612735), (0, 31, 48, 3758096383), (0, 32, 49, 8053063679), (0, 33, 50, 16642998271), (2, 29, 46, 17179869183), (2, 34, 51, 34359738367), (0, 35, 52, 68719476735), (0, 36, 53, 137438953471), (0, 37, 54, 274877906943), (1, 38, 55, 549755813887), (1, 39, 56, 1099511627775), (1, 40, 57, 2199023255551), (1, 41, 58, 4398046511103), (1, 42, 59, 8796093022207), (1, 43, 60, 17592186044415), (1, 44, 61, 35184372088831), (1, 45, 62, 70368744177663), (1, 46, 63, 140737488355327), (1, 47, 64, 281474976710655), (1, 48, 65, 562949953421311), (1, 49, 66, 1125899906842623), (0, 50, 67, 2251799813685247)]
                    iterate 51 (first | (obtain ⟨q_, Q_⟩ := Qs.p Q_; refine pureQ_ q_ (v := ?_) (a' := ?_) rfl rfl (any_of HT_.out (by kernel_rfl)) (fun _ _ _ h => h) (Or.inl ⟨by rfl, ?_⟩) ?_ ?_; rotate_left; (intro w'; go_simp; with_reducible rfl); rotate_left; (simp only [Act.put, List.setIfInBounds_toArray, List.set_cons_zero, List.set_cons_succ, i64_w, i32_w]; rfl)) | (obtain ⟨q_, Q_⟩ := Qs.u Q_; refine pureQ_ q_ (v := undef) (a' := ?_) rfl rfl (any_of HT_.out (by kernel_rfl)) (fun _ _ _ h => h) (Or.inr ⟨by rfl, rfl⟩) ?_ ?_; rotate_left; (simp only [Act.put, List.setIfInBounds_toArray, List.set_cons_zero, List.set_cons_succ, i64_w, i32_w]; rfl)) | (obtain ⟨q_, Q_⟩ := Qs.t Q_; refine takeQ_ q_ (v := ?_) (a' := ?_) rfl rfl (take_ofW HT_.out HW_.out (by kernel_rfl)) (fun _ _ _ h => h) (Or.inl ⟨by rfl, ?_⟩) hHeld ?_ ?_; rotate_left; (rintro w' ⟨s0, s1, s2, s3, s4, s5, s6, s7, s8, s9, s10, s11, s12, s13, s14, s15, s16, s17, s18, s19, s20, s21, s22, s23, s24, s25, s26, s27, s28, s29, s30, s31, s32, s33, s34, s35⟩; go_simp; with_reducible rfl); rotate_left; (simp only [Act.put, List.setIfInBounds_toArray, List.set_cons_zero, List.set_cons_succ, i64_w, i32_w]; rfl)))
                    clear Q_
                    refine done_ (done_of HT_.out (by kernel_rfl)) ?_
                    try go_wp2
                    go_ret
                    exact ⟨by first | rfl | (simp [errW_none, errW_some] <;> rfl) | (simp [*, errW_none, errW_some] <;> rfl), by repeat (first | (with_reducible first | exact HB.out | apply below_alloc | apply pw_below_drewN | apply below_drew1) | exact HB.out)⟩
                · rw [if_neg c8] at H
                  have c8b0 : (((rd_T39 l0 x5_1).f1) == ((rd_T39 l1 x5_1).f1)) = false := beq_eq_false_iff_ne.mpr c8
                  have c8b1 : (((rd_T39 l0 x5_1).f1) != ((rd_T39 l1 x5_1).f1)) = true := bne_iff_ne.mpr c8
                  obtain rfl := Option.some.inj H
                  try go_wp2
                  replace HB := Aside0.mk (below_drew1 HB.out)
                  have p329 : 0 ≤ (x5_1 : Int) := of_decide_eq_true (by first | (with_reducible assumption) | assumption)
                  have q329 : x5_1 < (l0.length : Int) := of_decide_eq_true (by first | (with_reducible assumption) | assumption)
                  obtain ⟨ad329, A329_5, c329_5, e329, hx329_0, hx329_1, hx329_2, hx329_3, hx329_4, hx329_5, hl329_5, hi329_5⟩ := at_T39 HR0.out x5_1 p329 q329
                  have hw329_5 := hx329_5
                  have hw329_4 := hx329_4
                  have hw329_3 := hx329_3
                  have hw329_2 := hx329_2
                  have hw329_1 := hx329_1
                  have hw329_0 := hx329_0
                  cases e329
                  replace hx329_0 := (HB.out.cell (World.block_lt_of_cell? w _ hx329_0)).trans hx329_0
                  replace hx329_1 := (HB.out.cell (World.block_lt_of_cell? w _ hx329_1)).trans hx329_1
                  replace hx329_2 := (HB.out.cell (World.block_lt_of_cell? w _ hx329_2)).trans hx329_2
                  replace hx329_3 := (HB.out.cell (World.block_lt_of_cell? w _ hx329_3)).trans hx329_3
                  replace hx329_4 := (HB.out.cell (World.block_lt_of_cell? w _ hx329_4)).trans hx329_4
                  replace hx329_5 := (HB.out.cell (World.block_lt_of_cell? w _ hx329_5)).trans hx329_5
                  have HR329_5 := Aside0.mk hi329_5
                  have HC329_5 := Aside0.mk hl329_5
                  clear hi329_5 hl329_5
                  replace p329 := eq_true p329
                  replace q329 := eq_true q329
                  have p330 : 0 ≤ (x5_1 : Int) := of_decide_eq_true (by first | (with_reducible assumption) | assumption)
                  have q330 : x5_1 < (l1.length : Int) := of_decide_eq_true (by first | (with_reducible assumption) | assumption)
                  obtain ⟨ad330, A330_5, c330_5, e330, hx330_0, hx330_1, hx330_2, hx330_3, hx330_4, hx330_5, hl330_5, hi330_5⟩ := at_T39 HR1.out x5_1 p330 q330
                  have hw330_5 := hx330_5
                  have hw330_4 := hx330_4
                  have hw330_3 := hx330_3
                  have hw330_2 := hx330_2
                  have hw330_1 := hx330_1
                  have hw330_0 := hx330_0
                  cases e330
                  replace hx330_0 := (HB.out.cell (World.block_lt_of_cell? w _ hx330_0)).trans hx330_0
                  replace hx330_1 := (HB.out.cell (World.block_lt_of_cell? w _ hx330_1)).trans hx330_1
                  replace hx330_2 := (HB.out.cell (World.block_lt_of_cell? w _ hx330_2)).trans hx330_2
                  replace hx330_3 := (HB.out.cell (World.block_lt_of_cell? w _ hx330_3)).trans hx330_3
                  replace hx330_4 := (HB.out.cell (World.block_lt_of_cell? w _ hx330_4)).trans hx330_4
                  replace hx330_5 := (HB.out.cell (World.block_lt_of_cell? w _ hx330_5)).trans hx330_5
                  have HR330_5 := Aside0.mk hi330_5
                  have HC330_5 := Aside0.mk hl330_5
                  clear hi330_5 hl330_5
                  replace p330 := eq_true p330
                  replace q330 := eq_true q330
                  have p331 : 0 ≤ (x5_1 : Int) := of_decide_eq_true (by first | (with_reducible assumption) | assumption)
                  have q331 : x5_1 < (l0.length : Int) := of_decide_eq_true (by first | (with_reducible assumption) | assumption)
                  obtain ⟨ad331, A331_5, c331_5, e331, hx331_0, hx331_1, hx331_2, hx331_3, hx331_4, hx331_5, hl331_5, hi331_5⟩ := at_T39 HR0.out x5_1 p331 q331
                  have hw331_5 := hx331_5
                  have hw331_4 := hx331_4
                  have hw331_3 := hx331_3
                  have hw331_2 := hx331_2
                  have hw331_1 := hx331_1
                  have hw331_0 := hx331_0
                  obtain rfl : ad329 = ad331 := (by injection e331)
                  replace hx331_0 := (HB.out.cell (World.block_lt_of_cell? w _ hx331_0)).trans hx331_0
                  replace hx331_1 := (HB.out.cell (World.block_lt_of_cell? w _ hx331_1)).trans hx331_1
                  replace hx331_2 := (HB.out.cell (World.block_lt_of_cell? w _ hx331_2)).trans hx331_2
                  replace hx331_3 := (HB.out.cell (World.block_lt_of_cell? w _ hx331_3)).trans hx331_3
                  replace hx331_4 := (HB.out.cell (World.block_lt_of_cell? w _ hx331_4)).trans hx331_4
                  replace hx331_5 := (HB.out.cell (World.block_lt_of_cell? w _ hx331_5)).trans hx331_5
                  have HR331_5 := Aside0.mk hi331_5
                  have HC331_5 := Aside0.mk hl331_5
                  clear hi331_5 hl331_5
                  replace p331 := eq_true p331
                  replace q331 := eq_true q331
                  have ea_ := Option.some.inj (hx329_5.symm.trans hx331_5)
                  injection ea_ with ea_ en_ ec_
                  subst ea_
                  subst ec_
                  clear en_
                  have p332 : 0 ≤ (x5_1 : Int) := of_decide_eq_true (by first | (with_reducible assumption) | assumption)
                  have q332 : x5_1 < (l1.length : Int) := of_decide_eq_true (by first | (with_reducible assumption) | assumption)
                  obtain ⟨ad332, A332_5, c332_5, e332, hx332_0, hx332_1, hx332_2, hx332_3, hx332_4, hx332_5, hl332_5, hi332_5⟩ := at_T39 HR1.out x5_1 p332 q332
                  have hw332_5 := hx332_5
                  have hw332_4 := hx332_4
                  have hw332_3 := hx332_3
                  have hw332_2 := hx332_2
                  have hw332_1 := hx332_1
                  have hw332_0 := hx332_0
                  obtain rfl : ad330 = ad332 := (by injection e332)
                  replace hx332_0 := (HB.out.cell (World.block_lt_of_cell? w _ hx332_0)).trans hx332_0
                  replace hx332_1 := (HB.out.cell (World.block_lt_of_cell? w _ hx332_1)).trans hx332_1
                  replace hx332_2 := (HB.out.cell (World.block_lt_of_cell? w _ hx332_2)).trans hx332_2
                  replace hx332_3 := (HB.out.cell (World.block_lt_of_cell? w _ hx332_3)).trans hx332_3
                  replace hx332_4 := (HB.out.cell (World.block_lt_of_cell? w _ hx332_4)).trans hx332_4
                  replace hx332_5 := (HB.out.cell (World.block_lt_of_cell? w _ hx332_5)).trans hx332_5
                  have HR332_5 := Aside0.mk hi332_5
                  have HC332_5 := Aside0.mk hl332_5
                  clear hi332_5 hl332_5
                  replace p332 := eq_true p332
                  replace q332 := eq_true q332
                  have ea_ := Option.some.inj (hx330_5.symm.trans hx332_5)
                  injection ea_ with ea_ en_ ec_
                  subst ea_
                  subst ec_
                  clear en_
                  refine start_ (n := 51) (S := fun w' => w'.cell? (ad329.add ((x5_1).toNat * 6)) = some (.int .i64 ((rd_T39 l0 x5_1).f0)) ∧ w'.cell? ⟨(ad329.add ((x5_1).toNat * 6)).block, (ad329.add ((x5_1).toNat * 6)).off + 1, none⟩ = some (.int .i64 ((rd_T39 l0 x5_1).f1)) ∧ w'.cell? ⟨(ad329.add ((x5_1).toNat * 6)).block, (ad329.add ((x5_1).toNat * 6)).off + 2, none⟩ = some (.int .i64 ((rd_T39 l0 x5_1).f2)) ∧ w'.cell? ⟨(ad329.add ((x5_1).toNat * 6)).block, (ad329.add ((x5_1).toNat * 6)).off + 3, none⟩ = some (.int .i64 ((rd_T39 l0 x5_1).f3.f0)) ∧ w'.cell? ⟨(ad329.add ((x5_1).toNat * 6)).block, (ad329.add ((x5_1).toNat * 6)).off + 4, none⟩ = some (.int .i64 ((rd_T39 l0 x5_1).f3.f1)) ∧ w'.cell? ⟨(ad329.add ((x5_1).toNat * 6)).block, (ad329.add ((x5_1).toNat * 6)).off + 5, none⟩ = some (.slice A329_5 ((rd_T39 l0 x5_1).f3.f2).length c329_5) ∧ w'.cell? (ad330.add ((x5_1).toNat * 6)) = some (.int .i64 ((rd_T39 l1 x5_1).f0)) ∧ w'.cell? ⟨(ad330.add ((x5_1).toNat * 6)).block, (ad330.add ((x5_1).toNat * 6)).off + 1, none⟩ = some (.int .i64 ((rd_T39 l1 x5_1).f1)) ∧ w'.cell? ⟨(ad330.add ((x5_1).toNat * 6)).block, (ad330.add ((x5_1).toNat * 6)).off + 2, none⟩ = some (.int .i64 ((rd_T39 l1 x5_1).f2)) ∧ w'.cell? ⟨(ad330.add ((x5_1).toNat * 6)).block, (ad330.add ((x5_1).toNat * 6)).off + 3, none⟩ = some (.int .i64 ((rd_T39 l1 x5_1).f3.f0)) ∧ w'.cell? ⟨(ad330.add ((x5_1).toNat * 6)).block, (ad330.add ((x5_1).toNat * 6)).off + 4, none⟩ = some (.int .i64 ((rd_T39 l1 x5_1).f3.f1)) ∧ w'.cell? ⟨(ad330.add ((x5_1).toNat * 6)).block, (ad330.add ((x5_1).toNat * 6)).off + 5, none⟩ = some (.slice A330_5 ((rd_T39 l1 x5_1).f3.f2).length c330_5) ∧ w'.cell? (ad329.add ((x5_1).toNat * 6)) = some (.int .i64 ((rd_T39 l0 x5_1).f0)) ∧ w'.cell? ⟨(ad329.add ((x5_1).toNat * 6)).block, (ad329.add ((x5_1).toNat * 6)).off + 1, none⟩ = some (.int .i64 ((rd_T39 l0 x5_1).f1)) ∧ w'.cell? ⟨(ad329.add ((x5_1).toNat * 6)).block, (ad329.add ((x5_1).toNat * 6)).off + 2, none⟩ = some (.int .i64 ((rd_T39 l0 x5_1).f2)) ∧ w'.cell? ⟨(ad329.add ((x5_1).toNat * 6)).block, (ad329.add ((x5_1).toNat * 6)).off + 3, none⟩ = some (.int .i64 ((rd_T39 l0 x5_1).f3.f0)) ∧ w'.cell? ⟨(ad329.add ((x5_1).toNat * 6)).block, (ad329.add ((x5_1).toNat * 6)).off + 4, none⟩ = some (.int .i64 ((rd_T39 l0 x5_1).f3.f1)) ∧ w'.cell? ⟨(ad329.add ((x5_1).toNat * 6)).block, (ad329.add ((x5_1).toNat * 6)).off + 5, none⟩ = some (.slice A329_5 ((rd_T39 l0 x5_1).f3.f2).length c329_5) ∧ w'.cell? (ad330.add ((x5_1).toNat * 6)) = some (.int .i64 ((rd_T39 l1 x5_1).f0)) ∧ w'.cell? ⟨(ad330.add ((x5_1).toNat * 6)).block, (ad330.add ((x5_1).toNat * 6)).off + 1, none⟩ = some (.int .i64 ((rd_T39 l1 x5_1).f1)) ∧ w'.cell? ⟨(ad330.add ((x5_1).toNat * 6)).block, (ad330.add ((x5_1).toNat * 6)).off + 2, none⟩ = some (.int .i64 ((rd_T39 l1 x5_1).f2)) ∧ w'.cell? ⟨(ad330.add ((x5_1).toNat * 6)).block, (ad330.add ((x5_1).toNat * 6)).off + 3, none⟩ = some (.int .i64 ((rd_T39 l1 x5_1).f3.f0)) ∧ w'.cell? ⟨(ad330.add ((x5_1).toNat * 6)).block, (ad330.add ((x5_1).toNat * 6)).off + 4, none⟩ = some (.int .i64 ((rd_T39 l1 x5_1).f3.f1)) ∧ w'.cell? ⟨(ad330.add ((x5_1).toNat * 6)).block, (ad330.add ((x5_1).toNat * 6)).off + 5, none⟩ = some (.slice A330_5 ((rd_T39 l1 x5_1).f3.f2).length c330_5)) (ds := []) #[false, false, false, false, false, false, false, false, false, false, false, false, false, false, false, false, false, false, false, false, false, false, false, false, false, false, false, false, false, false, false, false, false, false, false, false, false, false, false, false, false, false, false, false, false, false, false, false, false, false, false] (by kernel_rfl) rfl rfl ⟨((HB.out.cell (World.block_lt_of_cell? w _ hw329_0)).trans hw329_0), ((HB.out.cell (World.block_lt_of_cell? w _ hw329_1)).trans hw329_1), ((HB.out.cell (World.block_lt_of_cell? w _ hw329_2)).trans hw329_2), ((HB.out.cell (World.block_lt_of_cell? w _ hw329_3)).trans hw329_3), ((HB.out.cell (World.block_lt_of_cell? w _ hw329_4)).trans hw329_4), ((HB.out.cell (World.block_lt_of_cell? w _ hw329_5)).trans hw329_5), ((HB.out.cell (World.block_lt_of_cell? w _ hw330_0)).trans hw330_0), ((HB.out.cell (World.block_lt_of_cell? w _ hw330_1)).trans hw330_1), ((HB.out.cell (World.block_lt_of_cell? w _ hw330_2)).trans hw330_2), ((HB.out.cell (World.block_lt_of_cell? w _ hw330_3)).trans hw330_3), ((HB.out.cell (World.block_lt_of_cell? w _ hw330_4)).trans hw330_4), ((HB.out.cell (World.block_lt_of_cell? w _ hw330_5)).trans hw330_5), ((HB.out.cell (World.block_lt_of_cell? w _ hw331_0)).trans hw331_0), ((HB.out.cell (World.block_lt_of_cell? w _ hw331_1)).trans hw331_1), ((HB.out.cell (World.block_lt_of_cell? w _ hw331_2)).trans hw331_2), ((HB.out.cell (World.block_lt_of_cell? w _ hw331_3)).trans hw331_3), ((HB.out.cell (World.block_lt_of_cell? w _ hw331_4)).trans hw331_4), ((HB.out.cell (World.block_lt_of_cell? w _ hw331_5)).trans hw331_5), ((HB.out.cell (World.block_lt_of_cell? w _ hw332_0)).trans hw332_0), ((HB.out.cell (World.block_lt_of_cell? w _ hw332_1)).trans hw332_1), ((HB.out.cell (World.block_lt_of_cell? w _ hw332_2)).trans hw332_2), ((HB.out.cell (World.block_lt_of_cell? w _ hw332_3)).trans hw332_3), ((HB.out.cell (World.block_lt_of_cell? w _ hw332_4)).trans hw332_4), ((HB.out.cell (World.block_lt_of_cell? w _ hw332_5)).trans hw332_5)⟩ (fun hHeld => ?_); refine with_tabW watchmanref18_Same.tab6 watchmanref18_Same.bits6 (fun HT_ HW_ => ?_)
                  generalize wr.drew = w17 at HB HR329_5 HR330_5 HR331_5 HR332_5 hx329_0 hx329_1 hx329_2 hx329_3 hx329_4 hx329_5 hx330_0 hx330_1 hx330_2 hx330_3 hx330_4 hx330_5 hx331_0 hx331_1 hx331_2 hx331_3 hx331_4 hx331_5 hx332_0 hx332_1 hx332_2 hx332_3 hx332_4 hx332_5 hHeld ⊢
                  have Q_ := Qs.mk (n := 51) [(0, 0, 17, 1), (0, 1, 18, 3), (0, 2, 19, 7), (0, 3, 20, 15), (0, 5, 22, 47), (0, 6, 23, 111), (0, 7, 24, 239), (0, 8, 25, 495), (2, 4, 21, 511), (2, 9, 26, 1023), (0, 10, 27, 2047), (0, 11, 28, 4095), (0, 12, 29, 8191), (0, 13, 30, 16383), (0, 14, 31, 32767), (0, 15, 32, 65535), (0, 17, 34, 196607), (0, 18, 35, 458751), (0, 19, 36, 983039), (0, 20, 37, 2031615), (2, 16, 33, 2097151), (2, 21, 38, 4194303), (0, 22, 39, 8388607), (0, 23, 40, 16777215), (0, 24, 41, 33554431), (1, 25, 42, 67108863), (1, 26, 43, 134217727), (1, 27, 44, 268435455), (1, 28, 45, 536870911), (1, 29, 46, 1073741823), (1, 30, 47, 2147483647), (1, 31, 48, 4294967295), (1, 32, 49, 8589934591), (1, 33, 50, 17179869183), (1, 34, 51, 34359738367), (1, 35, 52, 68719476735), (0, 36, 53, 137438953471), (0, 37, 54, 274877906943), (1, 38, 55, 549755813887), (1, 39, 56, 1099511627775), (1, 40, 57, 2199023255551), (1, 41, 58, 4398046511103), (1, 42, 59, 8796093022207), (1, 43, 60, 17592186044415), (1, 44, 61, 35184372088831), (1, 45, 62, 70368744177663), (1, 46, 63, 140737488355327), (1, 47, 64, 281474976710655), (1, 48, 65, 562949953421311), (1, 49, 66, 1125899906842623), (0, 50, 67, 2251799813685247)]
                  iterate 51 (first | (obtain ⟨q_, Q_⟩ := Qs.p Q_; refine pureQ_ q_ (v := ?_) (a' := ?_) rfl rfl (any_of HT_.out (by kernel_rfl)) (fun _ _ _ h => h) (Or.inl ⟨by rfl, ?_⟩) ?_ ?_; rotate_left; (intro w'; go_simp; with_reducible rfl); rotate_left; (simp only [Act.put, List.setIfInBounds_toArray, List.set_cons_zero, List.set_cons_succ, i64_w, i32_w]; rfl)) | (obtain ⟨q_, Q_⟩ := Qs.u Q_; refine pureQ_ q_ (v := undef) (a' := ?_) rfl rfl (any_of HT_.out (by kernel_rfl)) (fun _ _ _ h => h) (Or.inr ⟨by rfl, rfl⟩) ?_ ?_; rotate_left; (simp only [Act.put, List.setIfInBounds_toArray, List.set_cons_zero, List.set_cons_succ, i64_w, i32_w]; rfl)) | (obtain ⟨q_, Q_⟩ := Qs.t Q_; refine takeQ_ q_ (v := ?_) (a' := ?_) rfl rfl (take_ofW HT_.out HW_.out (by kernel_rfl)) (fun _ _ _ h => h) (Or.inl ⟨by rfl, ?_⟩) hHeld ?_ ?_; rotate_left; (rintro w' ⟨s0, s1, s2, s3, s4, s5, s6, s7, s8, s9, s10, s11, s12, s13, s14, s15, s16, s17, s18, s19, s20, s21, s22, s23⟩; go_simp; with_reducible rfl); rotate_left; (simp only [Act.put, List.setIfInBounds_toArray, List.set_cons_zero, List.set_cons_succ, i64_w, i32_w]; rfl)))
                  clear Q_
                  refine done_ (done_of HT_.out (by kernel_rfl)) ?_
                  try go_wp2
                  go_ret
                  exact ⟨by first | rfl | (simp [errW_none, errW_some] <;> rfl) | (simp [*, errW_none, errW_some] <;> rfl), by repeat (first | (with_reducible first | exact HB.out | apply below_alloc | apply pw_below_drewN | apply below_drew1) | exact HB.out)⟩
              · rw [if_neg c7] at H
                have c7b0 : (((rd_T39 l0 x5_1).f0) == ((rd_T39 l1 x5_1).f0)) = false := beq_eq_false_iff_ne.mpr c7
                have c7b1 : (((rd_T39 l0 x5_1).f0) != ((rd_T39 l1 x5_1).f0)) = true := bne_iff_ne.mpr c7
                obtain rfl := Option.some.inj H
                try go_wp2
                replace HB := Aside0.mk (below_drew1 HB.out)
                have p329 : 0 ≤ (x5_1 : Int) := of_decide_eq_true (by first | (with_reducible assumption) | assumption)
                have q329 : x5_1 < (l0.length : Int) := of_decide_eq_true (by first | (with_reducible assumption) | assumption)
                obtain ⟨ad329, A329_5, c329_5, e329, hx329_0, hx329_1, hx329_2, hx329_3, hx329_4, hx329_5, hl329_5, hi329_5⟩ := at_T39 HR0.out x5_1 p329 q329
                have hw329_5 := hx329_5
                have hw329_4 := hx329_4
                have hw329_3 := hx329_3
                have hw329_2 := hx329_2
                have hw329_1 := hx329_1
                have hw329_0 := hx329_0
                cases e329
                replace hx329_0 := (HB.out.cell (World.block_lt_of_cell? w _ hx329_0)).trans hx329_0
                replace hx329_1 := (HB.out.cell (World.block_lt_of_cell? w _ hx329_1)).trans hx329_1
                replace hx329_2 := (HB.out.cell (World.block_lt_of_cell? w _ hx329_2)).trans hx329_2
                replace hx329_3 := (HB.out.cell (World.block_lt_of_cell? w _ hx329_3)).trans hx329_3
                replace hx329_4 := (HB.out.cell (World.block_lt_of_cell? w _ hx329_4)).trans hx329_4
                replace hx329_5 := (HB.out.cell (World.block_lt_of_cell? w _ hx329_5)).trans hx329_5
                have HR329_5 := Aside0.mk hi329_5
                have HC329_5 := Aside0.mk hl329_5
                clear hi329_5 hl329_5
                replace p329 := eq_true p329
                replace q329 := eq_true q329
                have p330 : 0 ≤ (x5_1 : Int) := of_decide_eq_true (by first | (with_reducible assumption) | assumption)
                have q330 : x5_1 < (l1.length : Int) := of_decide_eq_true (by first | (with_reducible assumption) | assumption)
                obtain ⟨ad330, A330_5, c330_5, e330, hx330_0, hx330_1, hx330_2, hx330_3, hx330_4, hx330_5, hl330_5, hi330_5⟩ := at_T39 HR1.out x5_1 p330 q330
                have hw330_5 := hx330_5
                have hw330_4 := hx330_4
                have hw330_3 := hx330_3
                have hw330_2 := hx330_2
                have hw330_1 := hx330_1
                have hw330_0 := hx330_0
                cases e330
                replace hx330_0 := (HB.out.cell (World.block_lt_of_cell? w _ hx330_0)).trans hx330_0
                replace hx330_1 := (HB.out.cell (World.block_lt_of_cell? w _ hx330_1)).trans hx330_1
                replace hx330_2 := (HB.out.cell (World.block_lt_of_cell? w _ hx330_2)).trans hx330_2
                replace hx330_3 := (HB.out.cell (World.block_lt_of_cell? w _ hx330_3)).trans hx330_3
                replace hx330_4 := (HB.out.cell (World.block_lt_of_cell? w _ hx330_4)).trans hx330_4
                replace hx330_5 := (HB.out.cell (World.block_lt_of_cell? w _ hx330_5)).trans hx330_5
                have HR330_5 := Aside0.mk hi330_5
                have HC330_5 := Aside0.mk hl330_5
                clear hi330_5 hl330_5
                replace p330 := eq_true p330
                replace q330 := eq_true q330
                refine start_ (n := 51) (S := fun w' => w'.cell? (ad329.add ((x5_1).toNat * 6)) = some (.int .i64 ((rd_T39 l0 x5_1).f0)) ∧ w'.cell? ⟨(ad329.add ((x5_1).toNat * 6)).block, (ad329.add ((x5_1).toNat * 6)).off + 1, none⟩ = some (.int .i64 ((rd_T39 l0 x5_1).f1)) ∧ w'.cell? ⟨(ad329.add ((x5_1).toNat * 6)).block, (ad329.add ((x5_1).toNat * 6)).off + 2, none⟩ = some (.int .i64 ((rd_T39 l0 x5_1).f2)) ∧ w'.cell? ⟨(ad329.add ((x5_1).toNat * 6)).block, (ad329.add ((x5_1).toNat * 6)).off + 3, none⟩ = some (.int .i64 ((rd_T39 l0 x5_1).f3.f0)) ∧ w'.cell? ⟨(ad329.add ((x5_1).toNat * 6)).block, (ad329.add ((x5_1).toNat * 6)).off + 4, none⟩ = some (.int .i64 ((rd_T39 l0 x5_1).f3.f1)) ∧ w'.cell? ⟨(ad329.add ((x5_1).toNat * 6)).block, (ad329.add ((x5_1).toNat * 6)).off + 5, none⟩ = some (.slice A329_5 ((rd_T39 l0 x5_1).f3.f2).length c329_5) ∧ w'.cell? (ad330.add ((x5_1).toNat * 6)) = some (.int .i64 ((rd_T39 l1 x5_1).f0)) ∧ w'.cell? ⟨(ad330.add ((x5_1).toNat * 6)).block, (ad330.add ((x5_1).toNat * 6)).off + 1, none⟩ = some (.int .i64 ((rd_T39 l1 x5_1).f1)) ∧ w'.cell? ⟨(ad330.add ((x5_1).toNat * 6)).block, (ad330.add ((x5_1).toNat * 6)).off + 2, none⟩ = some (.int .i64 ((rd_T39 l1 x5_1).f2)) ∧ w'.cell? ⟨(ad330.add ((x5_1).toNat * 6)).block, (ad330.add ((x5_1).toNat * 6)).off + 3, none⟩ = some (.int .i64 ((rd_T39 l1 x5_1).f3.f0)) ∧ w'.cell? ⟨(ad330.add ((x5_1).toNat * 6)).block, (ad330.add ((x5_1).toNat * 6)).off + 4, none⟩ = some (.int .i64 ((rd_T39 l1 x5_1).f3.f1)) ∧ w'.cell? ⟨(ad330.add ((x5_1).toNat * 6)).block, (ad330.add ((x5_1).toNat * 6)).off + 5, none⟩ = some (.slice A330_5 ((rd_T39 l1 x5_1).f3.f2).length c330_5)) (ds := []) #[false, false, false, false, false, false, false, false, false, false, false, false, false, false, false, false, false, false, false, false, false, false, false, false, false, false, false, false, false, false, false, false, false, false, false, false, false, false, false, false, false, false, false, false, false, false, false, false, false, false, false] (by kernel_rfl) rfl rfl ⟨((HB.out.cell (World.block_lt_of_cell? w _ hw329_0)).trans hw329_0), ((HB.out.cell (World.block_lt_of_cell? w _ hw329_1)).trans hw329_1), ((HB.out.cell (World.block_lt_of_cell? w _ hw329_2)).trans hw329_2), ((HB.out.cell (World.block_lt_of_cell? w _ hw329_3)).trans hw329_3), ((HB.out.cell (World.block_lt_of_cell? w _ hw329_4)).trans hw329_4), ((HB.out.cell (World.block_lt_of_cell? w _ hw329_5)).trans hw329_5), ((HB.out.cell (World.block_lt_of_cell? w _ hw330_0)).trans hw330_0), ((HB.out.cell (World.block_lt_of_cell? w _ hw330_1)).trans hw330_1), ((HB.out.cell (World.block_lt_of_cell? w _ hw330_2)).trans hw330_2), ((HB.out.cell (World.block_lt_of_cell? w _ hw330_3)).trans hw330_3), ((HB.out.cell (World.block_lt_of_cell? w _ hw330_4)).trans hw330_4), ((HB.out.cell (World.block_lt_of_cell? w _ hw330_5)).trans hw330_5)⟩ (fun hHeld => ?_); refine with_tabW watchmanref18_Same.tab6 watchmanref18_Same.bits6 (fun HT_ HW_ => ?_)
                generalize wr.drew = w18 at HB HR329_5 HR330_5 hx329_0 hx329_1 hx329_2 hx329_3 hx329_4 hx329_5 hx330_0 hx330_1 hx330_2 hx330_3 hx330_4 hx330_5 hHeld ⊢
                have Q_ := Qs.mk (n := 51) [(0, 0, 17, 1), (0, 1, 18, 3), (0, 2, 19, 7), (0, 3, 20, 15), (0, 5, 22, 47), (0, 6, 23, 111), (0, 7, 24, 239), (0, 8, 25, 495), (2, 4, 21, 511), (2, 9, 26, 1023), (0, 10, 27, 2047), (0, 11, 28, 4095), (1, 12, 29, 8191), (1, 13, 30, 16383), (1, 14, 31, 32767), (1, 15, 32, 65535), (1, 16, 33, 131071), (1, 17, 34, 262143), (1, 18, 35, 524287), (1, 19, 36, 1048575), (1, 20, 37, 2097151), (1, 21, 38, 4194303), (1, 22, 39, 8388607), (0, 23, 40, 16777215), (0, 24, 41, 33554431), (1, 25, 42, 67108863), (1, 26, 43, 134217727), (1, 27, 44, 268435455), (1, 28, 45, 536870911), (1, 29, 46, 1073741823), (1, 30, 47, 2147483647), (1, 31, 48, 4294967295), (1, 32, 49, 8589934591), (1, 33, 50, 17179869183), (1, 34, 51, 34359738367), (1, 35, 52, 68719476735), (0, 36, 53, 137438953471), (0, 37, 54, 274877906943), (1, 38, 55, 549755813887), (1, 39, 56, 1099511627775), (1, 40, 57, 2199023255551), (1, 41, 58, 4398046511103), (1, 42, 59, 8796093022207), (1, 43, 60, 17592186044415), (1, 44, 61, 35184372088831), (1, 45, 62, 70368744177663), (1, 46, 63, 140737488355327), (1, 47, 64, 281474976710655), (1, 48, 65, 562949953421311), (1, 49, 66, 1125899906842623), (0, 50, 67, 2251799813685247)]
                iterate 51 (first | (obtain ⟨q_, Q_⟩ := Qs.p Q_; refine pureQ_ q_ (v := ?_) (a' := ?_) rfl rfl (any_of HT_.out (by kernel_rfl)) (fun _ _ _ h => h) (Or.inl ⟨by rfl, ?_⟩) ?_ ?_; rotate_left; (intro w'; go_simp; with_reducible rfl); rotate_left; (simp only [Act.put, List.setIfInBounds_toArray, List.set_cons_zero, List.set_cons_succ, i64_w, i32_w]; rfl)) | (obtain ⟨q_, Q_⟩ := Qs.u Q_; refine pureQ_ q_ (v := undef) (a' := ?_) rfl rfl (any_of HT_.out (by kernel_rfl)) (fun _ _ _ h => h) (Or.inr ⟨by rfl, rfl⟩) ?_ ?_; rotate_left; (simp only [Act.put, List.setIfInBounds_toArray, List.set_cons_zero, List.set_cons_succ, i64_w, i32_w]; rfl)) | (obtain ⟨q_, Q_⟩ := Qs.t Q_; refine takeQ_ q_ (v := ?_) (a' := ?_) rfl rfl (take_ofW HT_.out HW_.out (by kernel_rfl)) (fun _ _ _ h => h) (Or.inl ⟨by rfl, ?_⟩) hHeld ?_ ?_; rotate_left; (rintro w' ⟨s0, s1, s2, s3, s4, s5, s6, s7, s8, s9, s10, s11⟩; go_simp; with_reducible rfl); rotate_left; (simp only [Act.put, List.setIfInBounds_toArray, List.set_cons_zero, List.set_cons_succ, i64_w, i32_w]; rfl)))
                clear Q_
                refine done_ (done_of HT_.out (by kernel_rfl)) ?_
                try go_wp2
                go_ret
                exact ⟨by first | rfl | (simp [errW_none, errW_some] <;> rfl) | (simp [*, errW_none, errW_some] <;> rfl), by repeat (first | (with_reducible first | exact HB.out | apply below_alloc | apply pw_below_drewN | apply below_drew1) | exact HB.out)⟩
            · rw [if_neg c6] at H
              exact absurd H (by simp)
          · rw [if_neg c5] at H
            exact absurd H (by simp)
        · rw [if_neg c4] at H
          have c4b0 : decide (x5_1 < (l0.length : Int)) = false := decide_eq_false c4
          clear c4
          obtain rfl := Option.some.inj H
          go_wp2
          go_ret
          exact ⟨by first | rfl | (simp [errW_none, errW_some] <;> rfl) | (simp [*, errW_none, errW_some] <;> rfl), by repeat (first | (with_reducible first | exact HB.out | apply below_alloc | apply pw_below_drewN | apply below_drew1) | exact HB.out)⟩
  · rw [if_neg c3] at H
    have c3b0 : ((l0.length : Int) == (l1.length : Int)) = false := beq_eq_false_iff_ne.mpr c3
    have c3b1 : ((l0.length : Int) != (l1.length : Int)) = true := bne_iff_ne.mpr c3
    have c3b2 : (l0.length == l1.length) = false := by first | simpa using c3 | (simp at c3 ⊢; omega)
    obtain rfl := Option.some.inj H
    go_enter Try.func25, Try.ntmps25
    go_wp2
    go_ret
    exact ⟨by first | rfl | (simp [errW_none, errW_some] <;> rfl) | (simp [*, errW_none, errW_some] <;> rfl), by repeat (first | (with_reducible first | exact HB.out | apply below_alloc | apply pw_below_drewN | apply below_drew1) | exact HB.out)⟩

end Go.Proofs.Ytkhdpmbjjcmooaa.F
