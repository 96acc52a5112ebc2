-- Written by a program of this session (xprint.py), out of the translation and of contracts proved by hand.
import Derived.Test.YtkhdpmbjjcmooaaF0
import Derived.Test.YtkhdpmbjjcmooaaF10
namespace Go.Proofs.Ytkhdpmbjjcmooaa.F
open Go.RowKit Go.Proofs.YtkhdpmbjjcmooaaV.PrintWords Go.Proofs.YtkhdpmbjjcmooaaV.PrintLast Go.Proofs.YtkhdpmbjjcmooaaV.PrintMore
attribute [local go_sem] max2_int min2_int max_two min_two max_three min_three max_four min_four   -- for this text's walks alone
set_option linter.unusedVariables false
set_option linter.unusedSimpArgs false

/-! ### watchmanref18_Is: function 27 -/
def watchmanref18_Is.l0 : Nat → List (S39) → Int → Option (Bool)
  | 0, _, _ => none
  | k + 1, x0, x3 => if x3 < (x0.length : Int) then (if 0 ≤ x3 then ((watchmanref18_may.f k ((rd_T39 x0 x3).f0) ((rd_T39 x0 x3).f1) ((rd_T39 x0 x3).f2) ((rd_T39 x0 x3).f3.f0) ((rd_T39 x0 x3).f3.f1) ((rd_T39 x0 x3).f3.f2)).bind fun t223 => (if t223 = true then (if x3 > 0 then (if 0 ≤ (wrap64 (x3 - 1)) then (if (wrap64 (x3 - 1)) < (x0.length : Int) then (if ((rd_T39 x0 (wrap64 (x3 - 1))).f0) ≥ ((rd_T39 x0 x3).f0) then (some false) else (watchmanref18_Is.l0 k x0 (wrap64 (x3 + 1)))) else (none)) else (none)) else (watchmanref18_Is.l0 k x0 (wrap64 (x3 + 1)))) else (some false))) else (none)) else (some (decide ((x0.length : Int) ≤ 30)))
def watchmanref18_Is.f (k : Nat) (l0 : List (S39)) : Option (Bool) := watchmanref18_Is.l0 k l0 0
theorem watchmanref18_Is.mono_l : ∀ k, (∀ y0 y1, LeO (watchmanref18_Is.l0 k y0 y1) (watchmanref18_Is.l0 (k + 1) y0 y1))
  | 0 => fun _ _ r h => by simp [watchmanref18_Is.l0] at h
  | k + 1 => by
    have ih0 := watchmanref18_Is.mono_l k
    · intro y0 y1
      unfold watchmanref18_Is.l0
      repeat' first
      | (with_reducible exact ih0 _ _)
      | (with_reducible exact watchmanref18_may.mono _ _ _ _ _ _ _)
      | (with_reducible exact LeO.refl _)
      | (with_reducible exact LeO.none _)
      | (with_reducible refine LeO.ite ?_ ?_)
      | (with_reducible refine LeO.bind ?_ (fun _ => ?_))
      | exact ih0 _ _
      | exact watchmanref18_may.mono _ _ _ _ _ _ _
      | exact LeO.none _
      | refine LeO.ite ?_ ?_
      | refine LeO.bind ?_ (fun _ => ?_)
theorem watchmanref18_Is.mono : ∀ a0 k, LeO (watchmanref18_Is.f k a0) (watchmanref18_Is.f (k + 1) a0) := by
  intro a0 k
  have ih0 := watchmanref18_Is.mono_l k
  unfold watchmanref18_Is.f
  repeat' first
      | (with_reducible exact ih0 _ _)
      | (with_reducible exact watchmanref18_may.mono _ _ _ _ _ _ _)
      | (with_reducible exact LeO.refl _)
      | (with_reducible exact LeO.none _)
      | (with_reducible refine LeO.ite ?_ ?_)
      | (with_reducible refine LeO.bind ?_ (fun _ => ?_))
      | exact ih0 _ _
      | exact watchmanref18_may.mono _ _ _ _ _ _ _
      | exact LeO.none _
      | refine LeO.ite ?_ ?_
      | refine LeO.bind ?_ (fun _ => ?_)
def watchmanref18_Is.T4 : Bool × List (List Nat × List Nat) := (true, [([], []), ([], []), ([0, 1], [0, 1]), ([2], [2]), ([3], [3]), ([4], [4]), ([5, 4], [5]), ([6], [6]), ([7, 6], [6, 7]), ([8, 6, 6], [6, 8]), ([9], [9]), ([9], [9]), ([11, 9], [9, 11]), ([10, 12, 9], [9, 10, 12]), ([13, 9], [9, 13]), ([14, 9], [9, 14]), ([9], [9]), ([9], [9]), ([16, 17, 9], [9, 16, 17]), ([18, 9], [9, 18]), ([19, 9], [9, 19]), ([15, 20, 9], [9, 15, 20]), ([9, 21, 6], [6, 9, 21]), ([6, 22], [6, 22])])
def watchmanref18_Is.B4 : List Nat := [0, 0, 3, 7, 15, 31, 63, 127, 255, 511, 1023, 1023, 3071, 8191, 16383, 32767, 1023, 1023, 197631, 459775, 984063, 2097151, 4194303, 8388607]
theorem watchmanref18_Is.tab4 : rtab .any (opsOf Try.f27 4) = watchmanref18_Is.T4 := by kernel_rfl
theorem watchmanref18_Is.bits4 : waitsOk watchmanref18_Is.T4.2 watchmanref18_Is.B4 = true := by kernel_rfl
set_option maxHeartbeats 8000000 in
set_option maxRecDepth 100000 in
theorem watchmanref18_Is.calls (k : Nat) (A0 : Option Addr) (c0 : Nat) (l0 : List (S39)) (r : Bool) (w : World) (hr0 : Kd.C k39 w A0 l0.length l0) (hc0 : l0.length ≤ c0) (h : watchmanref18_Is.f k l0 = some r) :
    Calls Try.prog 27 #[.slice A0 l0.length c0] w fun e w' => e = .returned (.bool r) ∧ Below w.heap.size w w' := by
  have hu39 := Try.underlying39
  have HR0 := Aside0.mk hr0
  have HC0 := Aside0.mk hc0
  clear hr0 hc0
  have HB := Aside0.mk (Below.refl w.heap.size w)
  have H : (watchmanref18_Is.l0 k l0 0) = some r := h
  clear h
  have H' := Aside0.mk H
  clear H
  go_enter Try.func27, Try.ntmps27
  go_wp2
  go_loopg [3] k (fun kq v3 w' => ∃ (x3_1 : Int), v3 = .int .i64 x3_1 ∧ Aside0 (watchmanref18_Is.l0 kq l0 x3_1 = some r) ∧ Aside0 (kq ≤ k) ∧ Aside0 (Below w.heap.size w w'))
  case atStart => exact ⟨(0), (by first | rfl | (simp; done) | (simp [*]; done)), H', ⟨Nat.le_refl _⟩, ⟨by repeat (first | (with_reducible first | exact HB.out | apply below_alloc | apply pw_below_drewN | apply below_drew1) | exact HB.out)⟩⟩
  case round =>
    clear H'
    obtain ⟨x3_1, rfl, HA, HK1, HB⟩ := hrel
    cases gk with
    | zero => exact absurd HA.out (by simp [watchmanref18_Is.l0])
    | succ k1 =>
      have H := HA.out
      clear HA
      simp only [watchmanref18_Is.l0] at H
      by_cases c2 : x3_1 < (l0.length : Int)
      · rw [if_pos c2] at H
        have c2b0 : decide (x3_1 < (l0.length : Int)) = true := decide_eq_true c2
        clear c2
        by_cases c3 : 0 ≤ x3_1
        · rw [if_pos c3] at H
          have c3b0 : decide (0 ≤ x3_1) = true := decide_eq_true c3
          clear c3
          replace H := Option.bind_eq_some_iff.mp H
          obtain ⟨t223, A40, H⟩ := H
          replace H : (if t223 = true then (if x3_1 > 0 then (if 0 ≤ (wrap64 (x3_1 - 1)) then (if (wrap64 (x3_1 - 1)) < (l0.length : Int) then (if ((rd_T39 l0 (wrap64 (x3_1 - 1))).f0) ≥ ((rd_T39 l0 x3_1).f0) then (some false) else (watchmanref18_Is.l0 k1 l0 (wrap64 (x3_1 + 1)))) else (none)) else (none)) else (watchmanref18_Is.l0 k1 l0 (wrap64 (x3_1 + 1)))) else (some false)) = some r := H
          have A4 := Aside0.mk A40
          clear A40
          by_cases c5 : t223 = true
          · subst c5
            have H1 : (if x3_1 > 0 then (if 0 ≤ (wrap64 (x3_1 - 1)) then (if (wrap64 (x3_1 - 1)) < (l0.length : Int) then (if ((rd_T39 l0 (wrap64 (x3_1 - 1))).f0) ≥ ((rd_T39 l0 x3_1).f0) then (some false) else (watchmanref18_Is.l0 k1 l0 (wrap64 (x3_1 + 1)))) else (none)) else (none)) else (watchmanref18_Is.l0 k1 l0 (wrap64 (x3_1 + 1)))) = some r := by rw [if_pos rfl] at H; exact H
            clear H
            have H := H1
            clear H1
            by_cases c6 : x3_1 > 0
            · rw [if_pos c6] at H
              have c6b0 : decide (0 < x3_1) = true := decide_eq_true c6
              clear c6
              obtain ⟨ji7, hji7⟩ : ∃ j_ : Int, (wrap64 (x3_1 - 1)) = j_ := ⟨_, rfl⟩
              replace H : (if 0 ≤ (ji7) then (if (ji7) < (l0.length : Int) then (if ((rd_T39 l0 (ji7)).f0) ≥ ((rd_T39 l0 x3_1).f0) then (some false) else (watchmanref18_Is.l0 k1 l0 (wrap64 (x3_1 + 1)))) else (none)) else (none)) = some r := by first | (rw [hji7] at H; exact H) | (simp only [hji7] at H ⊢; exact H)
              (try rw [hji7] at A4)
              have hji7w : (IntKind.i64.wrap (x3_1 - 1)) = ji7 := (i64_w _).trans hji7
              by_cases c8 : 0 ≤ (ji7)
              · rw [if_pos c8] at H
                have c8b0 : decide (0 ≤ (ji7)) = true := decide_eq_true c8
                clear c8
                by_cases c9 : (ji7) < (l0.length : Int)
                · rw [if_pos c9] at H
                  have c9b0 : decide ((ji7) < (l0.length : Int)) = true := decide_eq_true c9
                  clear c9
                  by_cases c10 : ((rd_T39 l0 (ji7)).f0) ≥ ((rd_T39 l0 x3_1).f0)
                  · rw [if_pos c10] at H
                    have c10b0 : decide (((rd_T39 l0 x3_1).f0) ≤ ((rd_T39 l0 (ji7)).f0)) = true := decide_eq_true c10
                    clear c10
                    obtain rfl := Option.some.inj H
                    try go_wp2
                    replace HB := Aside0.mk (below_drew1 HB.out)
                    have p222 : 0 ≤ (x3_1 : Int) := of_decide_eq_true (by first | (with_reducible assumption) | assumption)
                    have q222 : x3_1 < (l0.length : Int) := of_decide_eq_true (by first | (with_reducible assumption) | assumption)
                    obtain ⟨ad222, A222_5, c222_5, e222, hx222_0, hx222_1, hx222_2, hx222_3, hx222_4, hx222_5, hl222_5, hi222_5⟩ := at_T39 HR0.out x3_1 p222 q222
                    have hw222_5 := hx222_5
                    have hw222_4 := hx222_4
                    have hw222_3 := hx222_3
                    have hw222_2 := hx222_2
                    have hw222_1 := hx222_1
                    have hw222_0 := hx222_0
                    cases e222
                    replace hx222_0 := (HB.out.cell (World.block_lt_of_cell? w _ hx222_0)).trans hx222_0
                    replace hx222_1 := (HB.out.cell (World.block_lt_of_cell? w _ hx222_1)).trans hx222_1
                    replace hx222_2 := (HB.out.cell (World.block_lt_of_cell? w _ hx222_2)).trans hx222_2
                    replace hx222_3 := (HB.out.cell (World.block_lt_of_cell? w _ hx222_3)).trans hx222_3
                    replace hx222_4 := (HB.out.cell (World.block_lt_of_cell? w _ hx222_4)).trans hx222_4
                    replace hx222_5 := (HB.out.cell (World.block_lt_of_cell? w _ hx222_5)).trans hx222_5
                    have HR222_5 := Aside0.mk hi222_5
                    have HC222_5 := Aside0.mk hl222_5
                    clear hi222_5 hl222_5
                    replace p222 := eq_true p222
                    replace q222 := eq_true q222
                    have p224 : 0 ≤ ((ji7) : Int) := of_decide_eq_true (by first | (with_reducible assumption) | assumption)
                    have q224 : (ji7) < (l0.length : Int) := of_decide_eq_true (by first | (with_reducible assumption) | assumption)
                    obtain ⟨ad224, A224_5, c224_5, e224, hx224_0, hx224_1, hx224_2, hx224_3, hx224_4, hx224_5, hl224_5, hi224_5⟩ := at_T39 HR0.out (ji7) p224 q224
                    have hw224_5 := hx224_5
                    have hw224_4 := hx224_4
                    have hw224_3 := hx224_3
                    have hw224_2 := hx224_2
                    have hw224_1 := hx224_1
                    have hw224_0 := hx224_0
                    obtain rfl : ad222 = ad224 := (by injection e224)
                    replace hx224_0 := (HB.out.cell (World.block_lt_of_cell? w _ hx224_0)).trans hx224_0
                    replace hx224_1 := (HB.out.cell (World.block_lt_of_cell? w _ hx224_1)).trans hx224_1
                    replace hx224_2 := (HB.out.cell (World.block_lt_of_cell? w _ hx224_2)).trans hx224_2
                    replace hx224_3 := (HB.out.cell (World.block_lt_of_cell? w _ hx224_3)).trans hx224_3
                    replace hx224_4 := (HB.out.cell (World.block_lt_of_cell? w _ hx224_4)).trans hx224_4
                    replace hx224_5 := (HB.out.cell (World.block_lt_of_cell? w _ hx224_5)).trans hx224_5
                    have HR224_5 := Aside0.mk hi224_5
                    have HC224_5 := Aside0.mk hl224_5
                    clear hi224_5 hl224_5
                    replace p224 := eq_true p224
                    replace q224 := eq_true q224
                    have p225 : 0 ≤ (x3_1 : Int) := of_decide_eq_true (by first | (with_reducible assumption) | assumption)
                    have q225 : x3_1 < (l0.length : Int) := of_decide_eq_true (by first | (with_reducible assumption) | assumption)
                    obtain ⟨ad225, A225_5, c225_5, e225, hx225_0, hx225_1, hx225_2, hx225_3, hx225_4, hx225_5, hl225_5, hi225_5⟩ := at_T39 HR0.out x3_1 p225 q225
                    have hw225_5 := hx225_5
                    have hw225_4 := hx225_4
                    have hw225_3 := hx225_3
                    have hw225_2 := hx225_2
                    have hw225_1 := hx225_1
                    have hw225_0 := hx225_0
                    obtain rfl : ad222 = ad225 := (by injection e225)
                    replace hx225_0 := (HB.out.cell (World.block_lt_of_cell? w _ hx225_0)).trans hx225_0
                    replace hx225_1 := (HB.out.cell (World.block_lt_of_cell? w _ hx225_1)).trans hx225_1
                    replace hx225_2 := (HB.out.cell (World.block_lt_of_cell? w _ hx225_2)).trans hx225_2
                    replace hx225_3 := (HB.out.cell (World.block_lt_of_cell? w _ hx225_3)).trans hx225_3
                    replace hx225_4 := (HB.out.cell (World.block_lt_of_cell? w _ hx225_4)).trans hx225_4
                    replace hx225_5 := (HB.out.cell (World.block_lt_of_cell? w _ hx225_5)).trans hx225_5
                    have HR225_5 := Aside0.mk hi225_5
                    have HC225_5 := Aside0.mk hl225_5
                    clear hi225_5 hl225_5
                    replace p225 := eq_true p225
                    replace q225 := eq_true q225
                    refine start_ (n := 24) (S := fun w' => w'.cell? (ad222.add ((x3_1).toNat * 6)) = some (.int .i64 ((rd_T39 l0 x3_1).f0)) ∧ w'.cell? ⟨(ad222.add ((x3_1).toNat * 6)).block, (ad222.add ((x3_1).toNat * 6)).off + 1, none⟩ = some (.int .i64 ((rd_T39 l0 x3_1).f1)) ∧ w'.cell? ⟨(ad222.add ((x3_1).toNat * 6)).block, (ad222.add ((x3_1).toNat * 6)).off + 2, none⟩ = some (.int .i64 ((rd_T39 l0 x3_1).f2)) ∧ w'.cell? ⟨(ad222.add ((x3_1).toNat * 6)).block, (ad222.add ((x3_1).toNat * 6)).off + 3, none⟩ = some (.int .i64 ((rd_T39 l0 x3_1).f3.f0)) ∧ w'.cell? ⟨(ad222.add ((x3_1).toNat * 6)).block, (ad222.add ((x3_1).toNat * 6)).off + 4, none⟩ = some (.int .i64 ((rd_T39 l0 x3_1).f3.f1)) ∧ w'.cell? ⟨(ad222.add ((x3_1).toNat * 6)).block, (ad222.add ((x3_1).toNat * 6)).off + 5, none⟩ = some (.slice A222_5 ((rd_T39 l0 x3_1).f3.f2).length c222_5) ∧ w'.cell? (ad222.add (((ji7)).toNat * 6)) = some (.int .i64 ((rd_T39 l0 (ji7)).f0)) ∧ w'.cell? ⟨(ad222.add (((ji7)).toNat * 6)).block, (ad222.add (((ji7)).toNat * 6)).off + 1, none⟩ = some (.int .i64 ((rd_T39 l0 (ji7)).f1)) ∧ w'.cell? ⟨(ad222.add (((ji7)).toNat * 6)).block, (ad222.add (((ji7)).toNat * 6)).off + 2, none⟩ = some (.int .i64 ((rd_T39 l0 (ji7)).f2)) ∧ w'.cell? ⟨(ad222.add (((ji7)).toNat * 6)).block, (ad222.add (((ji7)).toNat * 6)).off + 3, none⟩ = some (.int .i64 ((rd_T39 l0 (ji7)).f3.f0)) ∧ w'.cell? ⟨(ad222.add (((ji7)).toNat * 6)).block, (ad222.add (((ji7)).toNat * 6)).off + 4, none⟩ = some (.int .i64 ((rd_T39 l0 (ji7)).f3.f1)) ∧ w'.cell? ⟨(ad222.add (((ji7)).toNat * 6)).block, (ad222.add (((ji7)).toNat * 6)).off + 5, none⟩ = some (.slice A224_5 ((rd_T39 l0 (ji7)).f3.f2).length c224_5) ∧ w'.cell? (ad222.add ((x3_1).toNat * 6)) = some (.int .i64 ((rd_T39 l0 x3_1).f0)) ∧ w'.cell? ⟨(ad222.add ((x3_1).toNat * 6)).block, (ad222.add ((x3_1).toNat * 6)).off + 1, none⟩ = some (.int .i64 ((rd_T39 l0 x3_1).f1)) ∧ w'.cell? ⟨(ad222.add ((x3_1).toNat * 6)).block, (ad222.add ((x3_1).toNat * 6)).off + 2, none⟩ = some (.int .i64 ((rd_T39 l0 x3_1).f2)) ∧ w'.cell? ⟨(ad222.add ((x3_1).toNat * 6)).block, (ad222.add ((x3_1).toNat * 6)).off + 3, none⟩ = some (.int .i64 ((rd_T39 l0 x3_1).f3.f0)) ∧ w'.cell? ⟨(ad222.add ((x3_1).toNat * 6)).block, (ad222.add ((x3_1).toNat * 6)).off + 4, none⟩ = some (.int .i64 ((rd_T39 l0 x3_1).f3.f1)) ∧ w'.cell? ⟨(ad222.add ((x3_1).toNat * 6)).block, (ad222.add ((x3_1).toNat * 6)).off + 5, none⟩ = some (.slice A225_5 ((rd_T39 l0 x3_1).f3.f2).length c225_5)) (ds := []) #[false, false, false, false, false, false, false, false, false, false, false, false, false, false, false, false, false, false, false, false, false, false, false, false] (by kernel_rfl) rfl rfl ⟨((HB.out.cell (World.block_lt_of_cell? w _ hw222_0)).trans hw222_0), ((HB.out.cell (World.block_lt_of_cell? w _ hw222_1)).trans hw222_1), ((HB.out.cell (World.block_lt_of_cell? w _ hw222_2)).trans hw222_2), ((HB.out.cell (World.block_lt_of_cell? w _ hw222_3)).trans hw222_3), ((HB.out.cell (World.block_lt_of_cell? w _ hw222_4)).trans hw222_4), ((HB.out.cell (World.block_lt_of_cell? w _ hw222_5)).trans hw222_5), ((HB.out.cell (World.block_lt_of_cell? w _ hw224_0)).trans hw224_0), ((HB.out.cell (World.block_lt_of_cell? w _ hw224_1)).trans hw224_1), ((HB.out.cell (World.block_lt_of_cell? w _ hw224_2)).trans hw224_2), ((HB.out.cell (World.block_lt_of_cell? w _ hw224_3)).trans hw224_3), ((HB.out.cell (World.block_lt_of_cell? w _ hw224_4)).trans hw224_4), ((HB.out.cell (World.block_lt_of_cell? w _ hw224_5)).trans hw224_5), ((HB.out.cell (World.block_lt_of_cell? w _ hw225_0)).trans hw225_0), ((HB.out.cell (World.block_lt_of_cell? w _ hw225_1)).trans hw225_1), ((HB.out.cell (World.block_lt_of_cell? w _ hw225_2)).trans hw225_2), ((HB.out.cell (World.block_lt_of_cell? w _ hw225_3)).trans hw225_3), ((HB.out.cell (World.block_lt_of_cell? w _ hw225_4)).trans hw225_4), ((HB.out.cell (World.block_lt_of_cell? w _ hw225_5)).trans hw225_5)⟩ (fun hHeld => ?_); refine with_tabW watchmanref18_Is.tab4 watchmanref18_Is.bits4 (fun HT_ HW_ => ?_)
                    generalize wr.drew = w11 at HB HR222_5 HR224_5 HR225_5 hx222_0 hx222_1 hx222_2 hx222_3 hx222_4 hx222_5 hx224_0 hx224_1 hx224_2 hx224_3 hx224_4 hx224_5 hx225_0 hx225_1 hx225_2 hx225_3 hx225_4 hx225_5 hHeld ⊢
                    have Q_ := Qs.mk (n := 24) [(0, 0, 10, 1), (0, 1, 11, 3), (0, 2, 12, 7), (2, 3, 13, 15)]
                    iterate 4 (first | (obtain ⟨q_, Q_⟩ := Qs.p Q_; refine pureQ_ q_ (v := ?_) (a' := ?_) rfl rfl (any_of HT_.out (by kernel_rfl)) (fun _ _ _ h => h) (Or.inl ⟨by rfl, ?_⟩) ?_ ?_; rotate_left; (intro w'; go_simp; with_reducible rfl); rotate_left; (simp only [Act.put, List.setIfInBounds_toArray, List.set_cons_zero, List.set_cons_succ, i64_w, i32_w]; rfl)) | (obtain ⟨q_, Q_⟩ := Qs.t Q_; refine takeQ_ q_ (v := ?_) (a' := ?_) rfl rfl (take_ofW HT_.out HW_.out (by kernel_rfl)) (fun _ _ _ h => h) (Or.inl ⟨by rfl, ?_⟩) hHeld ?_ ?_; rotate_left; (rintro w' ⟨s0, s1, s2, s3, s4, s5, s6, s7, s8, s9, s10, s11, s12, s13, s14, s15, s16, s17⟩; go_simp; with_reducible rfl); rotate_left; (simp only [Act.put, List.setIfInBounds_toArray, List.set_cons_zero, List.set_cons_succ, i64_w, i32_w]; rfl)))
                    clear Q_
                    refine one_ (i := 4) (N := some 14) (dn_ 5 24) rfl rfl (one_of HT_.out (by kernel_rfl)) (by decide) (fun K hK => ?_)
                    refine goes_ Try.func40 (by kernel_rfl) rfl #[.agg #[.int .i64 ((rd_T39 l0 x3_1).f0), .int .i64 ((rd_T39 l0 x3_1).f1), .int .i64 ((rd_T39 l0 x3_1).f2), .int .i64 ((rd_T39 l0 x3_1).f3.f0), .int .i64 ((rd_T39 l0 x3_1).f3.f1), .slice A222_5 ((rd_T39 l0 x3_1).f3.f2).length c222_5]] (by rfl) rfl rfl (by (try simp only [List.map_toArray, List.map_cons, List.map_nil]); first | done | rfl | (simp only [List.length_drop, List.length_take]; rfl)) ?_
                    with_reducible refine (watchmanref18_may.calls k1 ((rd_T39 l0 x3_1).f0) ((rd_T39 l0 x3_1).f1) ((rd_T39 l0 x3_1).f2) ((rd_T39 l0 x3_1).f3.f0) ((rd_T39 l0 x3_1).f3.f1) _ _ ((rd_T39 l0 x3_1).f3.f2) true _ ?side1 ?side2 A4.out).mono ?_
                    (case side1 => repeat (first | exact (Kd.C_below HR222_5.out HB.out) | (with_reducible refine Kd.C_alloc ?_ _) | (with_reducible refine Kd.C_drewN ?_ _) | (with_reducible refine Kd.C_drew ?_)))
                    (case side2 => exact HC222_5.out)
                    rintro e w12 ⟨rfl, hb⟩
                    refine ⟨_, rfl, ?_⟩
                    replace HB := Aside0.mk (below_step (by repeat (first | (with_reducible first | exact HB.out | apply below_alloc | apply pw_below_drewN | apply below_drew1) | exact HB.out)) hb)
                    (try clear hb)
                    (try clear hb2)
                    (try clear hk)
                    (try clear hi)
                    refine hK.out _ _ ⟨((HB.out.cell (World.block_lt_of_cell? w _ hw222_0)).trans hw222_0), ((HB.out.cell (World.block_lt_of_cell? w _ hw222_1)).trans hw222_1), ((HB.out.cell (World.block_lt_of_cell? w _ hw222_2)).trans hw222_2), ((HB.out.cell (World.block_lt_of_cell? w _ hw222_3)).trans hw222_3), ((HB.out.cell (World.block_lt_of_cell? w _ hw222_4)).trans hw222_4), ((HB.out.cell (World.block_lt_of_cell? w _ hw222_5)).trans hw222_5), ((HB.out.cell (World.block_lt_of_cell? w _ hw224_0)).trans hw224_0), ((HB.out.cell (World.block_lt_of_cell? w _ hw224_1)).trans hw224_1), ((HB.out.cell (World.block_lt_of_cell? w _ hw224_2)).trans hw224_2), ((HB.out.cell (World.block_lt_of_cell? w _ hw224_3)).trans hw224_3), ((HB.out.cell (World.block_lt_of_cell? w _ hw224_4)).trans hw224_4), ((HB.out.cell (World.block_lt_of_cell? w _ hw224_5)).trans hw224_5), ((HB.out.cell (World.block_lt_of_cell? w _ hw225_0)).trans hw225_0), ((HB.out.cell (World.block_lt_of_cell? w _ hw225_1)).trans hw225_1), ((HB.out.cell (World.block_lt_of_cell? w _ hw225_2)).trans hw225_2), ((HB.out.cell (World.block_lt_of_cell? w _ hw225_3)).trans hw225_3), ((HB.out.cell (World.block_lt_of_cell? w _ hw225_4)).trans hw225_4), ((HB.out.cell (World.block_lt_of_cell? w _ hw225_5)).trans hw225_5)⟩ (fun hHeld => ?_)
                    clear hK K
                    refine norm_ (a' := ?_) ?_ ?_
                    rotate_left
                    · show Act.put _ (some 14) _ = _
                      simp only [Act.put, List.setIfInBounds_toArray, List.set_cons_zero, List.set_cons_succ, i64_w, i32_w]
                      rfl
                    have Q_ := Qs.mk (n := 24) [(0, 5, 15, 63), (0, 6, 16, 127), (0, 7, 17, 255), (0, 8, 18, 511), (0, 9, 19, 1023), (0, 10, 20, 2047), (0, 11, 21, 4095), (0, 12, 22, 8191), (0, 13, 23, 16383), (0, 14, 24, 32767), (0, 16, 26, 98303), (0, 17, 27, 229375), (0, 18, 28, 491519), (0, 19, 29, 1015807), (2, 15, 25, 1048575), (2, 20, 30, 2097151), (0, 21, 31, 4194303), (0, 22, 32, 8388607), (0, 23, 33, 16777215)]
                    iterate 19 (first | (obtain ⟨q_, Q_⟩ := Qs.p Q_; refine pureQ_ q_ (v := ?_) (a' := ?_) rfl rfl (any_of HT_.out (by kernel_rfl)) (fun _ _ _ h => h) (Or.inl ⟨by rfl, ?_⟩) ?_ ?_; rotate_left; (intro w'; go_simp; with_reducible rfl); rotate_left; (simp only [Act.put, List.setIfInBounds_toArray, List.set_cons_zero, List.set_cons_succ, i64_w, i32_w]; rfl)) | (obtain ⟨q_, Q_⟩ := Qs.t Q_; refine takeQ_ q_ (v := ?_) (a' := ?_) rfl rfl (take_ofW HT_.out HW_.out (by kernel_rfl)) (fun _ _ _ h => h) (Or.inl ⟨by rfl, ?_⟩) hHeld ?_ ?_; rotate_left; (rintro w' ⟨s0, s1, s2, s3, s4, s5, s6, s7, s8, s9, s10, s11, s12, s13, s14, s15, s16, s17⟩; go_simp; with_reducible rfl); rotate_left; (simp only [Act.put, List.setIfInBounds_toArray, List.set_cons_zero, List.set_cons_succ, i64_w, i32_w]; rfl)))
                    clear Q_
                    refine done_ (done_of HT_.out (by kernel_rfl)) ?_
                    try go_wp2
                    go_ret
                    exact ⟨by first | rfl | (simp [errW_none, errW_some] <;> rfl) | (simp only [← hji7]; first | rfl | (simp [errW_none, errW_some] <;> rfl)) | (simp [*, errW_none, errW_some] <;> rfl), by repeat (first | (with_reducible first | exact HB.out | apply below_alloc | apply pw_below_drewN | apply below_drew1) | exact HB.out)⟩
                  · rw [if_neg c10] at H
                    have c10b0 : decide (((rd_T39 l0 x3_1).f0) ≤ ((rd_T39 l0 (ji7)).f0)) = false := decide_eq_false c10
                    clear c10
                    have H' := Aside0.mk H
                    clear H
                    try go_wp2
                    replace HB := Aside0.mk (below_drew1 HB.out)
                    have p222 : 0 ≤ (x3_1 : Int) := of_decide_eq_true (by first | (with_reducible assumption) | assumption)
                    have q222 : x3_1 < (l0.length : Int) := of_decide_eq_true (by first | (with_reducible assumption) | assumption)
                    obtain ⟨ad222, A222_5, c222_5, e222, hx222_0, hx222_1, hx222_2, hx222_3, hx222_4, hx222_5, hl222_5, hi222_5⟩ := at_T39 HR0.out x3_1 p222 q222
                    have hw222_5 := hx222_5
                    have hw222_4 := hx222_4
                    have hw222_3 := hx222_3
                    have hw222_2 := hx222_2
                    have hw222_1 := hx222_1
                    have hw222_0 := hx222_0
                    cases e222
                    replace hx222_0 := (HB.out.cell (World.block_lt_of_cell? w _ hx222_0)).trans hx222_0
                    replace hx222_1 := (HB.out.cell (World.block_lt_of_cell? w _ hx222_1)).trans hx222_1
                    replace hx222_2 := (HB.out.cell (World.block_lt_of_cell? w _ hx222_2)).trans hx222_2
                    replace hx222_3 := (HB.out.cell (World.block_lt_of_cell? w _ hx222_3)).trans hx222_3
                    replace hx222_4 := (HB.out.cell (World.block_lt_of_cell? w _ hx222_4)).trans hx222_4
                    replace hx222_5 := (HB.out.cell (World.block_lt_of_cell? w _ hx222_5)).trans hx222_5
                    have HR222_5 := Aside0.mk hi222_5
                    have HC222_5 := Aside0.mk hl222_5
                    clear hi222_5 hl222_5
                    replace p222 := eq_true p222
                    replace q222 := eq_true q222
                    have p224 : 0 ≤ ((ji7) : Int) := of_decide_eq_true (by first | (with_reducible assumption) | assumption)
                    have q224 : (ji7) < (l0.length : Int) := of_decide_eq_true (by first | (with_reducible assumption) | assumption)
                    obtain ⟨ad224, A224_5, c224_5, e224, hx224_0, hx224_1, hx224_2, hx224_3, hx224_4, hx224_5, hl224_5, hi224_5⟩ := at_T39 HR0.out (ji7) p224 q224
                    have hw224_5 := hx224_5
                    have hw224_4 := hx224_4
                    have hw224_3 := hx224_3
                    have hw224_2 := hx224_2
                    have hw224_1 := hx224_1
                    have hw224_0 := hx224_0
                    obtain rfl : ad222 = ad224 := (by injection e224)
                    replace hx224_0 := (HB.out.cell (World.block_lt_of_cell? w _ hx224_0)).trans hx224_0
                    replace hx224_1 := (HB.out.cell (World.block_lt_of_cell? w _ hx224_1)).trans hx224_1
                    replace hx224_2 := (HB.out.cell (World.block_lt_of_cell? w _ hx224_2)).trans hx224_2
                    replace hx224_3 := (HB.out.cell (World.block_lt_of_cell? w _ hx224_3)).trans hx224_3
                    replace hx224_4 := (HB.out.cell (World.block_lt_of_cell? w _ hx224_4)).trans hx224_4
                    replace hx224_5 := (HB.out.cell (World.block_lt_of_cell? w _ hx224_5)).trans hx224_5
                    have HR224_5 := Aside0.mk hi224_5
                    have HC224_5 := Aside0.mk hl224_5
                    clear hi224_5 hl224_5
                    replace p224 := eq_true p224
                    replace q224 := eq_true q224
                    have p225 : 0 ≤ (x3_1 : Int) := of_decide_eq_true (by first | (with_reducible assumption) | assumption)
                    have q225 : x3_1 < (l0.length : Int) := of_decide_eq_true (by first | (with_reducible assumption) | assumption)
                    obtain ⟨ad225, A225_5, c225_5, e225, hx225_0, hx225_1, hx225_2, hx225_3, hx225_4, hx225_5, hl225_5, hi225_5⟩ := at_T39 HR0.out x3_1 p225 q225
                    have hw225_5 := hx225_5
                    have hw225_4 := hx225_4
                    have hw225_3 := hx225_3
                    have hw225_2 := hx225_2
                    have hw225_1 := hx225_1
                    have hw225_0 := hx225_0
                    obtain rfl : ad222 = ad225 := (by injection e225)
                    replace hx225_0 := (HB.out.cell (World.block_lt_of_cell? w _ hx225_0)).trans hx225_0
                    replace hx225_1 := (HB.out.cell (World.block_lt_of_cell? w _ hx225_1)).trans hx225_1
                    replace hx225_2 := (HB.out.cell (World.block_lt_of_cell? w _ hx225_2)).trans hx225_2
                    replace hx225_3 := (HB.out.cell (World.block_lt_of_cell? w _ hx225_3)).trans hx225_3
                    replace hx225_4 := (HB.out.cell (World.block_lt_of_cell? w _ hx225_4)).trans hx225_4
                    replace hx225_5 := (HB.out.cell (World.block_lt_of_cell? w _ hx225_5)).trans hx225_5
                    have HR225_5 := Aside0.mk hi225_5
                    have HC225_5 := Aside0.mk hl225_5
                    clear hi225_5 hl225_5
                    replace p225 := eq_true p225
                    replace q225 := eq_true q225
                    refine start_ (n := 24) (S := fun w' => w'.cell? (ad222.add ((x3_1).toNat * 6)) = some (.int .i64 ((rd_T39 l0 x3_1).f0)) ∧ w'.cell? ⟨(ad222.add ((x3_1).toNat * 6)).block, (ad222.add ((x3_1).toNat * 6)).off + 1, none⟩ = some (.int .i64 ((rd_T39 l0 x3_1).f1)) ∧ w'.cell? ⟨(ad222.add ((x3_1).toNat * 6)).block, (ad222.add ((x3_1).toNat * 6)).off + 2, none⟩ = some (.int .i64 ((rd_T39 l0 x3_1).f2)) ∧ w'.cell? ⟨(ad222.add ((x3_1).toNat * 6)).block, (ad222.add ((x3_1).toNat * 6)).off + 3, none⟩ = some (.int .i64 ((rd_T39 l0 x3_1).f3.f0)) ∧ w'.cell? ⟨(ad222.add ((x3_1).toNat * 6)).block, (ad222.add ((x3_1).toNat * 6)).off + 4, none⟩ = some (.int .i64 ((rd_T39 l0 x3_1).f3.f1)) ∧ w'.cell? ⟨(ad222.add ((x3_1).toNat * 6)).block, (ad222.add ((x3_1).toNat * 6)).off + 5, none⟩ = some (.slice A222_5 ((rd_T39 l0 x3_1).f3.f2).length c222_5) ∧ w'.cell? (ad222.add (((ji7)).toNat * 6)) = some (.int .i64 ((rd_T39 l0 (ji7)).f0)) ∧ w'.cell? ⟨(ad222.add (((ji7)).toNat * 6)).block, (ad222.add (((ji7)).toNat * 6)).off + 1, none⟩ = some (.int .i64 ((rd_T39 l0 (ji7)).f1)) ∧ w'.cell? ⟨(ad222.add (((ji7)).toNat * 6)).block, (ad222.add (((ji7)).toNat * 6)).off + 2, none⟩ = some (.int .i64 ((rd_T39 l0 (ji7)).f2)) ∧ w'.cell? ⟨(ad222.add (((ji7)).toNat * 6)).block, (ad222.add (((ji7)).toNat * 6)).off + 3, none⟩ = some (.int .i64 ((rd_T39 l0 (ji7)).f3.f0)) ∧ w'.cell? ⟨(ad222.add (((ji7)).toNat * 6)).block, (ad222.add (((ji7)).toNat * 6)).off + 4, none⟩ = some (.int .i64 ((rd_T39 l0 (ji7)).f3.f1)) ∧ w'.cell? ⟨(ad222.add (((ji7)).toNat * 6)).block, (ad222.add (((ji7)).toNat * 6)).off + 5, none⟩ = some (.slice A224_5 ((rd_T39 l0 (ji7)).f3.f2).length c224_5) ∧ w'.cell? (ad222.add ((x3_1).toNat * 6)) = some (.int .i64 ((rd_T39 l0 x3_1).f0)) ∧ w'.cell? ⟨(ad222.add ((x3_1).toNat * 6)).block, (ad222.add ((x3_1).toNat * 6)).off + 1, none⟩ = some (.int .i64 ((rd_T39 l0 x3_1).f1)) ∧ w'.cell? ⟨(ad222.add ((x3_1).toNat * 6)).block, (ad222.add ((x3_1).toNat * 6)).off + 2, none⟩ = some (.int .i64 ((rd_T39 l0 x3_1).f2)) ∧ w'.cell? ⟨(ad222.add ((x3_1).toNat * 6)).block, (ad222.add ((x3_1).toNat * 6)).off + 3, none⟩ = some (.int .i64 ((rd_T39 l0 x3_1).f3.f0)) ∧ w'.cell? ⟨(ad222.add ((x3_1).toNat * 6)).block, (ad222.add ((x3_1).toNat * 6)).off + 4, none⟩ = some (.int .i64 ((rd_T39 l0 x3_1).f3.f1)) ∧ w'.cell? ⟨(ad222.add ((x3_1).toNat * 6)).block, (ad222.add ((x3_1).toNat * 6)).off + 5, none⟩ = some (.slice A225_5 ((rd_T39 l0 x3_1).f3.f2).length c225_5)) (ds := []) #[false, false, false, false, false, false, false, false, false, false, false, false, false, false, false, false, false, false, false, false, false, false, false, false] (by kernel_rfl) rfl rfl ⟨((HB.out.cell (World.block_lt_of_cell? w _ hw222_0)).trans hw222_0), ((HB.out.cell (World.block_lt_of_cell? w _ hw222_1)).trans hw222_1), ((HB.out.cell (World.block_lt_of_cell? w _ hw222_2)).trans hw222_2), ((HB.out.cell (World.block_lt_of_cell? w _ hw222_3)).trans hw222_3), ((HB.out.cell (World.block_lt_of_cell? w _ hw222_4)).trans hw222_4), ((HB.out.cell (World.block_lt_of_cell? w _ hw222_5)).trans hw222_5), ((HB.out.cell (World.block_lt_of_cell? w _ hw224_0)).trans hw224_0), ((HB.out.cell (World.block_lt_of_cell? w _ hw224_1)).trans hw224_1), ((HB.out.cell (World.block_lt_of_cell? w _ hw224_2)).trans hw224_2), ((HB.out.cell (World.block_lt_of_cell? w _ hw224_3)).trans hw224_3), ((HB.out.cell (World.block_lt_of_cell? w _ hw224_4)).trans hw224_4), ((HB.out.cell (World.block_lt_of_cell? w _ hw224_5)).trans hw224_5), ((HB.out.cell (World.block_lt_of_cell? w _ hw225_0)).trans hw225_0), ((HB.out.cell (World.block_lt_of_cell? w _ hw225_1)).trans hw225_1), ((HB.out.cell (World.block_lt_of_cell? w _ hw225_2)).trans hw225_2), ((HB.out.cell (World.block_lt_of_cell? w _ hw225_3)).trans hw225_3), ((HB.out.cell (World.block_lt_of_cell? w _ hw225_4)).trans hw225_4), ((HB.out.cell (World.block_lt_of_cell? w _ hw225_5)).trans hw225_5)⟩ (fun hHeld => ?_); refine with_tabW watchmanref18_Is.tab4 watchmanref18_Is.bits4 (fun HT_ HW_ => ?_)
                    generalize wr.drew = w13 at HB HR222_5 HR224_5 HR225_5 hx222_0 hx222_1 hx222_2 hx222_3 hx222_4 hx222_5 hx224_0 hx224_1 hx224_2 hx224_3 hx224_4 hx224_5 hx225_0 hx225_1 hx225_2 hx225_3 hx225_4 hx225_5 hHeld ⊢
                    have Q_ := Qs.mk (n := 24) [(0, 0, 10, 1), (0, 1, 11, 3), (0, 2, 12, 7), (2, 3, 13, 15)]
                    iterate 4 (first | (obtain ⟨q_, Q_⟩ := Qs.p Q_; refine pureQ_ q_ (v := ?_) (a' := ?_) rfl rfl (any_of HT_.out (by kernel_rfl)) (fun _ _ _ h => h) (Or.inl ⟨by rfl, ?_⟩) ?_ ?_; rotate_left; (intro w'; go_simp; with_reducible rfl); rotate_left; (simp only [Act.put, List.setIfInBounds_toArray, List.set_cons_zero, List.set_cons_succ, i64_w, i32_w]; rfl)) | (obtain ⟨q_, Q_⟩ := Qs.t Q_; refine takeQ_ q_ (v := ?_) (a' := ?_) rfl rfl (take_ofW HT_.out HW_.out (by kernel_rfl)) (fun _ _ _ h => h) (Or.inl ⟨by rfl, ?_⟩) hHeld ?_ ?_; rotate_left; (rintro w' ⟨s0, s1, s2, s3, s4, s5, s6, s7, s8, s9, s10, s11, s12, s13, s14, s15, s16, s17⟩; go_simp; with_reducible rfl); rotate_left; (simp only [Act.put, List.setIfInBounds_toArray, List.set_cons_zero, List.set_cons_succ, i64_w, i32_w]; rfl)))
                    clear Q_
                    refine one_ (i := 4) (N := some 14) (dn_ 5 24) rfl rfl (one_of HT_.out (by kernel_rfl)) (by decide) (fun K hK => ?_)
                    refine goes_ Try.func40 (by kernel_rfl) rfl #[.agg #[.int .i64 ((rd_T39 l0 x3_1).f0), .int .i64 ((rd_T39 l0 x3_1).f1), .int .i64 ((rd_T39 l0 x3_1).f2), .int .i64 ((rd_T39 l0 x3_1).f3.f0), .int .i64 ((rd_T39 l0 x3_1).f3.f1), .slice A222_5 ((rd_T39 l0 x3_1).f3.f2).length c222_5]] (by rfl) rfl rfl (by (try simp only [List.map_toArray, List.map_cons, List.map_nil]); first | done | rfl | (simp only [List.length_drop, List.length_take]; rfl)) ?_
                    with_reducible refine (watchmanref18_may.calls k1 ((rd_T39 l0 x3_1).f0) ((rd_T39 l0 x3_1).f1) ((rd_T39 l0 x3_1).f2) ((rd_T39 l0 x3_1).f3.f0) ((rd_T39 l0 x3_1).f3.f1) _ _ ((rd_T39 l0 x3_1).f3.f2) true _ ?side1 ?side2 A4.out).mono ?_
                    (case side1 => repeat (first | exact (Kd.C_below HR222_5.out HB.out) | (with_reducible refine Kd.C_alloc ?_ _) | (with_reducible refine Kd.C_drewN ?_ _) | (with_reducible refine Kd.C_drew ?_)))
                    (case side2 => exact HC222_5.out)
                    rintro e w14 ⟨rfl, hb⟩
                    refine ⟨_, rfl, ?_⟩
                    replace HB := Aside0.mk (below_step (by repeat (first | (with_reducible first | exact HB.out | apply below_alloc | apply pw_below_drewN | apply below_drew1) | exact HB.out)) hb)
                    (try clear hb)
                    (try clear hb2)
                    (try clear hk)
                    (try clear hi)
                    refine hK.out _ _ ⟨((HB.out.cell (World.block_lt_of_cell? w _ hw222_0)).trans hw222_0), ((HB.out.cell (World.block_lt_of_cell? w _ hw222_1)).trans hw222_1), ((HB.out.cell (World.block_lt_of_cell? w _ hw222_2)).trans hw222_2), ((HB.out.cell (World.block_lt_of_cell? w _ hw222_3)).trans hw222_3), ((HB.out.cell (World.block_lt_of_cell? w _ hw222_4)).trans hw222_4), ((HB.out.cell (World.block_lt_of_cell? w _ hw222_5)).trans hw222_5), ((HB.out.cell (World.block_lt_of_cell? w _ hw224_0)).trans hw224_0), ((HB.out.cell (World.block_lt_of_cell? w _ hw224_1)).trans hw224_1), ((HB.out.cell (World.block_lt_of_cell? w _ hw224_2)).trans hw224_2), ((HB.out.cell (World.block_lt_of_cell? w _ hw224_3)).trans hw224_3), ((HB.out.cell (World.block_lt_of_cell? w _ hw224_4)).trans hw224_4), ((HB.out.cell (World.block_lt_of_cell? w _ hw224_5)).trans hw224_5), ((HB.out.cell (World.block_lt_of_cell? w _ hw225_0)).trans hw225_0), ((HB.out.cell (World.block_lt_of_cell? w _ hw225_1)).trans hw225_1), ((HB.out.cell (World.block_lt_of_cell? w _ hw225_2)).trans hw225_2), ((HB.out.cell (World.block_lt_of_cell? w _ hw225_3)).trans hw225_3), ((HB.out.cell (World.block_lt_of_cell? w _ hw225_4)).trans hw225_4), ((HB.out.cell (World.block_lt_of_cell? w _ hw225_5)).trans hw225_5)⟩ (fun hHeld => ?_)
                    clear hK K
                    refine norm_ (a' := ?_) ?_ ?_
                    rotate_left
                    · show Act.put _ (some 14) _ = _
                      simp only [Act.put, List.setIfInBounds_toArray, List.set_cons_zero, List.set_cons_succ, i64_w, i32_w]
                      rfl
                    have Q_ := Qs.mk (n := 24) [(0, 5, 15, 63), (0, 6, 16, 127), (0, 7, 17, 255), (0, 8, 18, 511), (0, 9, 19, 1023), (0, 10, 20, 2047), (0, 11, 21, 4095), (0, 12, 22, 8191), (0, 13, 23, 16383), (0, 14, 24, 32767), (0, 16, 26, 98303), (0, 17, 27, 229375), (0, 18, 28, 491519), (0, 19, 29, 1015807), (2, 15, 25, 1048575), (2, 20, 30, 2097151), (0, 21, 31, 4194303), (0, 22, 32, 8388607), (0, 23, 33, 16777215)]
                    iterate 19 (first | (obtain ⟨q_, Q_⟩ := Qs.p Q_; refine pureQ_ q_ (v := ?_) (a' := ?_) rfl rfl (any_of HT_.out (by kernel_rfl)) (fun _ _ _ h => h) (Or.inl ⟨by rfl, ?_⟩) ?_ ?_; rotate_left; (intro w'; go_simp; with_reducible rfl); rotate_left; (simp only [Act.put, List.setIfInBounds_toArray, List.set_cons_zero, List.set_cons_succ, i64_w, i32_w]; rfl)) | (obtain ⟨q_, Q_⟩ := Qs.t Q_; refine takeQ_ q_ (v := ?_) (a' := ?_) rfl rfl (take_ofW HT_.out HW_.out (by kernel_rfl)) (fun _ _ _ h => h) (Or.inl ⟨by rfl, ?_⟩) hHeld ?_ ?_; rotate_left; (rintro w' ⟨s0, s1, s2, s3, s4, s5, s6, s7, s8, s9, s10, s11, s12, s13, s14, s15, s16, s17⟩; go_simp; with_reducible rfl); rotate_left; (simp only [Act.put, List.setIfInBounds_toArray, List.set_cons_zero, List.set_cons_succ, i64_w, i32_w]; rfl)))
                    clear Q_
                    refine done_ (done_of HT_.out (by kernel_rfl)) ?_
                    try go_wp2
                    go_roundg k1
                    case measure => have := HK1.out; omega
                    case rel => exact ⟨(wrap64 (x3_1 + 1)), (by first | rfl | (simp; done) | (simp [*]; done)), H', ⟨by have := HK1.out; omega⟩, ⟨by repeat (first | (with_reducible first | exact HB.out | apply below_alloc | apply pw_below_drewN | apply below_drew1) | exact HB.out)⟩⟩
                · rw [if_neg c9] at H
                  exact absurd H (by simp)
              · rw [if_neg c8] at H
                exact absurd H (by simp)
            · rw [if_neg c6] at H
              have c6b0 : decide (0 < x3_1) = false := decide_eq_false c6
              clear c6
              have H' := Aside0.mk H
              clear H
              try go_wp2
              replace HB := Aside0.mk (below_drew1 HB.out)
              have p222 : 0 ≤ (x3_1 : Int) := of_decide_eq_true (by first | (with_reducible assumption) | assumption)
              have q222 : x3_1 < (l0.length : Int) := of_decide_eq_true (by first | (with_reducible assumption) | assumption)
              obtain ⟨ad222, A222_5, c222_5, e222, hx222_0, hx222_1, hx222_2, hx222_3, hx222_4, hx222_5, hl222_5, hi222_5⟩ := at_T39 HR0.out x3_1 p222 q222
              have hw222_5 := hx222_5
              have hw222_4 := hx222_4
              have hw222_3 := hx222_3
              have hw222_2 := hx222_2
              have hw222_1 := hx222_1
              have hw222_0 := hx222_0
              cases e222
              replace hx222_0 := (HB.out.cell (World.block_lt_of_cell? w _ hx222_0)).trans hx222_0
              replace hx222_1 := (HB.out.cell (World.block_lt_of_cell? w _ hx222_1)).trans hx222_1
              replace hx222_2 := (HB.out.cell (World.block_lt_of_cell? w _ hx222_2)).trans hx222_2
              replace hx222_3 := (HB.out.cell (World.block_lt_of_cell? w _ hx222_3)).trans hx222_3
              replace hx222_4 := (HB.out.cell (World.block_lt_of_cell? w _ hx222_4)).trans hx222_4
              replace hx222_5 := (HB.out.cell (World.block_lt_of_cell? w _ hx222_5)).trans hx222_5
              have HR222_5 := Aside0.mk hi222_5
              have HC222_5 := Aside0.mk hl222_5
              clear hi222_5 hl222_5
              replace p222 := eq_true p222
              replace q222 := eq_true q222
              refine start_ (n := 24) (S := fun w' => w'.cell? (ad222.add ((x3_1).toNat * 6)) = some (.int .i64 ((rd_T39 l0 x3_1).f0)) ∧ w'.cell? ⟨(ad222.add ((x3_1).toNat * 6)).block, (ad222.add ((x3_1).toNat * 6)).off + 1, none⟩ = some (.int .i64 ((rd_T39 l0 x3_1).f1)) ∧ w'.cell? ⟨(ad222.add ((x3_1).toNat * 6)).block, (ad222.add ((x3_1).toNat * 6)).off + 2, none⟩ = some (.int .i64 ((rd_T39 l0 x3_1).f2)) ∧ w'.cell? ⟨(ad222.add ((x3_1).toNat * 6)).block, (ad222.add ((x3_1).toNat * 6)).off + 3, none⟩ = some (.int .i64 ((rd_T39 l0 x3_1).f3.f0)) ∧ w'.cell? ⟨(ad222.add ((x3_1).toNat * 6)).block, (ad222.add ((x3_1).toNat * 6)).off + 4, none⟩ = some (.int .i64 ((rd_T39 l0 x3_1).f3.f1)) ∧ w'.cell? ⟨(ad222.add ((x3_1).toNat * 6)).block, (ad222.add ((x3_1).toNat * 6)).off + 5, none⟩ = some (.slice A222_5 ((rd_T39 l0 x3_1).f3.f2).length c222_5)) (ds := []) #[false, false, false, false, false, false, false, false, false, false, false, false, false, false, false, false, false, false, false, false, false, false, false, false] (by kernel_rfl) rfl rfl ⟨((HB.out.cell (World.block_lt_of_cell? w _ hw222_0)).trans hw222_0), ((HB.out.cell (World.block_lt_of_cell? w _ hw222_1)).trans hw222_1), ((HB.out.cell (World.block_lt_of_cell? w _ hw222_2)).trans hw222_2), ((HB.out.cell (World.block_lt_of_cell? w _ hw222_3)).trans hw222_3), ((HB.out.cell (World.block_lt_of_cell? w _ hw222_4)).trans hw222_4), ((HB.out.cell (World.block_lt_of_cell? w _ hw222_5)).trans hw222_5)⟩ (fun hHeld => ?_); refine with_tabW watchmanref18_Is.tab4 watchmanref18_Is.bits4 (fun HT_ HW_ => ?_)
              generalize wr.drew = w15 at HB HR222_5 hx222_0 hx222_1 hx222_2 hx222_3 hx222_4 hx222_5 hHeld ⊢
              have Q_ := Qs.mk (n := 24) [(0, 0, 10, 1), (0, 1, 11, 3), (0, 2, 12, 7), (2, 3, 13, 15)]
              iterate 4 (first | (obtain ⟨q_, Q_⟩ := Qs.p Q_; refine pureQ_ q_ (v := ?_) (a' := ?_) rfl rfl (any_of HT_.out (by kernel_rfl)) (fun _ _ _ h => h) (Or.inl ⟨by rfl, ?_⟩) ?_ ?_; rotate_left; (intro w'; go_simp; with_reducible rfl); rotate_left; (simp only [Act.put, List.setIfInBounds_toArray, List.set_cons_zero, List.set_cons_succ, i64_w, i32_w]; rfl)) | (obtain ⟨q_, Q_⟩ := Qs.t Q_; refine takeQ_ q_ (v := ?_) (a' := ?_) rfl rfl (take_ofW HT_.out HW_.out (by kernel_rfl)) (fun _ _ _ h => h) (Or.inl ⟨by rfl, ?_⟩) hHeld ?_ ?_; rotate_left; (rintro w' ⟨s0, s1, s2, s3, s4, s5⟩; go_simp; with_reducible rfl); rotate_left; (simp only [Act.put, List.setIfInBounds_toArray, List.set_cons_zero, List.set_cons_succ, i64_w, i32_w]; rfl)))
              clear Q_
              refine one_ (i := 4) (N := some 14) (dn_ 5 24) rfl rfl (one_of HT_.out (by kernel_rfl)) (by decide) (fun K hK => ?_)
              refine goes_ Try.func40 (by kernel_rfl) rfl #[.agg #[.int .i64 ((rd_T39 l0 x3_1).f0), .int .i64 ((rd_T39 l0 x3_1).f1), .int .i64 ((rd_T39 l0 x3_1).f2), .int .i64 ((rd_T39 l0 x3_1).f3.f0), .int .i64 ((rd_T39 l0 x3_1).f3.f1), .slice A222_5 ((rd_T39 l0 x3_1).f3.f2).length c222_5]] (by rfl) rfl rfl (by (try simp only [List.map_toArray, List.map_cons, List.map_nil]); first | done | rfl | (simp only [List.length_drop, List.length_take]; rfl)) ?_
              with_reducible refine (watchmanref18_may.calls k1 ((rd_T39 l0 x3_1).f0) ((rd_T39 l0 x3_1).f1) ((rd_T39 l0 x3_1).f2) ((rd_T39 l0 x3_1).f3.f0) ((rd_T39 l0 x3_1).f3.f1) _ _ ((rd_T39 l0 x3_1).f3.f2) true _ ?side1 ?side2 A4.out).mono ?_
              (case side1 => repeat (first | exact (Kd.C_below HR222_5.out HB.out) | (with_reducible refine Kd.C_alloc ?_ _) | (with_reducible refine Kd.C_drewN ?_ _) | (with_reducible refine Kd.C_drew ?_)))
              (case side2 => exact HC222_5.out)
              rintro e w16 ⟨rfl, hb⟩
              refine ⟨_, rfl, ?_⟩
              replace HB := Aside0.mk (below_step (by repeat (first | (with_reducible first | exact HB.out | apply below_alloc | apply pw_below_drewN | apply below_drew1) | exact HB.out)) hb)
              (try clear hb)
              (try clear hb2)
              (try clear hk)
              (try clear hi)
              refine hK.out _ _ ⟨((HB.out.cell (World.block_lt_of_cell? w _ hw222_0)).trans hw222_0), ((HB.out.cell (World.block_lt_of_cell? w _ hw222_1)).trans hw222_1), ((HB.out.cell (World.block_lt_of_cell? w _ hw222_2)).trans hw222_2), ((HB.out.cell (World.block_lt_of_cell? w _ hw222_3)).trans hw222_3), ((HB.out.cell (World.block_lt_of_cell? w _ hw222_4)).trans hw222_4), ((HB.out.cell (World.block_lt_of_cell? w _ hw222_5)).trans hw222_5)⟩ (fun hHeld => ?_)
              clear hK K
              refine norm_ (a' := ?_) ?_ ?_
              rotate_left
              · show Act.put _ (some 14) _ = _
                simp only [Act.put, List.setIfInBounds_toArray, List.set_cons_zero, List.set_cons_succ, i64_w, i32_w]
                rfl
              have Q_ := Qs.mk (n := 24) [(0, 5, 15, 63), (0, 6, 16, 127), (0, 7, 17, 255), (0, 8, 18, 511), (0, 9, 19, 1023), (1, 10, 20, 2047), (1, 11, 21, 4095), (1, 12, 22, 8191), (1, 13, 23, 16383), (1, 14, 24, 32767), (1, 15, 25, 65535), (1, 16, 26, 131071), (1, 17, 27, 262143), (1, 18, 28, 524287), (1, 19, 29, 1048575), (1, 20, 30, 2097151), (1, 21, 31, 4194303), (0, 22, 32, 8388607), (0, 23, 33, 16777215)]
              iterate 19 (first | (obtain ⟨q_, Q_⟩ := Qs.p Q_; refine pureQ_ q_ (v := ?_) (a' := ?_) rfl rfl (any_of HT_.out (by kernel_rfl)) (fun _ _ _ h => h) (Or.inl ⟨by rfl, ?_⟩) ?_ ?_; rotate_left; (intro w'; go_simp; with_reducible rfl); rotate_left; (simp only [Act.put, List.setIfInBounds_toArray, List.set_cons_zero, List.set_cons_succ, i64_w, i32_w]; rfl)) | (obtain ⟨q_, Q_⟩ := Qs.u Q_; refine pureQ_ q_ (v := undef) (a' := ?_) rfl rfl (any_of HT_.out (by kernel_rfl)) (fun _ _ _ h => h) (Or.inr ⟨by rfl, rfl⟩) ?_ ?_; rotate_left; (simp only [Act.put, List.setIfInBounds_toArray, List.set_cons_zero, List.set_cons_succ, i64_w, i32_w]; rfl)))
              clear Q_
              refine done_ (done_of HT_.out (by kernel_rfl)) ?_
              try go_wp2
              go_roundg k1
              case measure => have := HK1.out; omega
              case rel => exact ⟨(wrap64 (x3_1 + 1)), (by first | rfl | (simp; done) | (simp [*]; done)), H', ⟨by have := HK1.out; omega⟩, ⟨by repeat (first | (with_reducible first | exact HB.out | apply below_alloc | apply pw_below_drewN | apply below_drew1) | exact HB.out)⟩⟩
          · replace c5 := Bool.eq_false_iff.mpr c5
            subst c5
            have H1 : (some false) = some r := by rw [if_neg (show ¬ (false = true) by decide)] at H; exact H
            clear H
            have H := H1
            clear H1
            obtain rfl := Option.some.inj H
            try go_wp2
            replace HB := Aside0.mk (below_drew1 HB.out)
            have p222 : 0 ≤ (x3_1 : Int) := of_decide_eq_true (by first | (with_reducible assumption) | assumption)
            have q222 : x3_1 < (l0.length : Int) := of_decide_eq_true (by first | (with_reducible assumption) | assumption)
            obtain ⟨ad222, A222_5, c222_5, e222, hx222_0, hx222_1, hx222_2, hx222_3, hx222_4, hx222_5, hl222_5, hi222_5⟩ := at_T39 HR0.out x3_1 p222 q222
            have hw222_5 := hx222_5
            have hw222_4 := hx222_4
            have hw222_3 := hx222_3
            have hw222_2 := hx222_2
            have hw222_1 := hx222_1
            have hw222_0 := hx222_0
            cases e222
            replace hx222_0 := (HB.out.cell (World.block_lt_of_cell? w _ hx222_0)).trans hx222_0
            replace hx222_1 := (HB.out.cell (World.block_lt_of_cell? w _ hx222_1)).trans hx222_1
            replace hx222_2 := (HB.out.cell (World.block_lt_of_cell? w _ hx222_2)).trans hx222_2
            replace hx222_3 := (HB.out.cell (World.block_lt_of_cell? w _ hx222_3)).trans hx222_3
            replace hx222_4 := (HB.out.cell (World.block_lt_of_cell? w _ hx222_4)).trans hx222_4
            replace hx222_5 := (HB.out.cell (World.block_lt_of_cell? w _ hx222_5)).trans hx222_5
            have HR222_5 := Aside0.mk hi222_5
            have HC222_5 := Aside0.mk hl222_5
            clear hi222_5 hl222_5
            replace p222 := eq_true p222
            replace q222 := eq_true q222
            refine start_ (n := 24) (S := fun w' => w'.cell? (ad222.add ((x3_1).toNat * 6)) = some (.int .i64 ((rd_T39 l0 x3_1).f0)) ∧ w'.cell? ⟨(ad222.add ((x3_1).toNat * 6)).block, (ad222.add ((x3_1).toNat * 6)).off + 1, none⟩ = some (.int .i64 ((rd_T39 l0 x3_1).f1)) ∧ w'.cell? ⟨(ad222.add ((x3_1).toNat * 6)).block, (ad222.add ((x3_1).toNat * 6)).off + 2, none⟩ = some (.int .i64 ((rd_T39 l0 x3_1).f2)) ∧ w'.cell? ⟨(ad222.add ((x3_1).toNat * 6)).block, (ad222.add ((x3_1).toNat * 6)).off + 3, none⟩ = some (.int .i64 ((rd_T39 l0 x3_1).f3.f0)) ∧ w'.cell? ⟨(ad222.add ((x3_1).toNat * 6)).block, (ad222.add ((x3_1).toNat * 6)).off + 4, none⟩ = some (.int .i64 ((rd_T39 l0 x3_1).f3.f1)) ∧ w'.cell? ⟨(ad222.add ((x3_1).toNat * 6)).block, (ad222.add ((x3_1).toNat * 6)).off + 5, none⟩ = some (.slice A222_5 ((rd_T39 l0 x3_1).f3.f2).length c222_5)) (ds := []) #[false, false, false, false, false, false, false, false, false, false, false, false, false, false, false, false, false, false, false, false, false, false, false, false] (by kernel_rfl) rfl rfl ⟨((HB.out.cell (World.block_lt_of_cell? w _ hw222_0)).trans hw222_0), ((HB.out.cell (World.block_lt_of_cell? w _ hw222_1)).trans hw222_1), ((HB.out.cell (World.block_lt_of_cell? w _ hw222_2)).trans hw222_2), ((HB.out.cell (World.block_lt_of_cell? w _ hw222_3)).trans hw222_3), ((HB.out.cell (World.block_lt_of_cell? w _ hw222_4)).trans hw222_4), ((HB.out.cell (World.block_lt_of_cell? w _ hw222_5)).trans hw222_5)⟩ (fun hHeld => ?_); refine with_tabW watchmanref18_Is.tab4 watchmanref18_Is.bits4 (fun HT_ HW_ => ?_)
            generalize wr.drew = w17 at HB HR222_5 hx222_0 hx222_1 hx222_2 hx222_3 hx222_4 hx222_5 hHeld ⊢
            have Q_ := Qs.mk (n := 24) [(0, 0, 10, 1), (0, 1, 11, 3), (0, 2, 12, 7), (2, 3, 13, 15)]
            iterate 4 (first | (obtain ⟨q_, Q_⟩ := Qs.p Q_; refine pureQ_ q_ (v := ?_) (a' := ?_) rfl rfl (any_of HT_.out (by kernel_rfl)) (fun _ _ _ h => h) (Or.inl ⟨by rfl, ?_⟩) ?_ ?_; rotate_left; (intro w'; go_simp; with_reducible rfl); rotate_left; (simp only [Act.put, List.setIfInBounds_toArray, List.set_cons_zero, List.set_cons_succ, i64_w, i32_w]; rfl)) | (obtain ⟨q_, Q_⟩ := Qs.t Q_; refine takeQ_ q_ (v := ?_) (a' := ?_) rfl rfl (take_ofW HT_.out HW_.out (by kernel_rfl)) (fun _ _ _ h => h) (Or.inl ⟨by rfl, ?_⟩) hHeld ?_ ?_; rotate_left; (rintro w' ⟨s0, s1, s2, s3, s4, s5⟩; go_simp; with_reducible rfl); rotate_left; (simp only [Act.put, List.setIfInBounds_toArray, List.set_cons_zero, List.set_cons_succ, i64_w, i32_w]; rfl)))
            clear Q_
            refine one_ (i := 4) (N := some 14) (dn_ 5 24) rfl rfl (one_of HT_.out (by kernel_rfl)) (by decide) (fun K hK => ?_)
            refine goes_ Try.func40 (by kernel_rfl) rfl #[.agg #[.int .i64 ((rd_T39 l0 x3_1).f0), .int .i64 ((rd_T39 l0 x3_1).f1), .int .i64 ((rd_T39 l0 x3_1).f2), .int .i64 ((rd_T39 l0 x3_1).f3.f0), .int .i64 ((rd_T39 l0 x3_1).f3.f1), .slice A222_5 ((rd_T39 l0 x3_1).f3.f2).length c222_5]] (by rfl) rfl rfl (by (try simp only [List.map_toArray, List.map_cons, List.map_nil]); first | done | rfl | (simp only [List.length_drop, List.length_take]; rfl)) ?_
            with_reducible refine (watchmanref18_may.calls k1 ((rd_T39 l0 x3_1).f0) ((rd_T39 l0 x3_1).f1) ((rd_T39 l0 x3_1).f2) ((rd_T39 l0 x3_1).f3.f0) ((rd_T39 l0 x3_1).f3.f1) _ _ ((rd_T39 l0 x3_1).f3.f2) false _ ?side1 ?side2 A4.out).mono ?_
            (case side1 => repeat (first | exact (Kd.C_below HR222_5.out HB.out) | (with_reducible refine Kd.C_alloc ?_ _) | (with_reducible refine Kd.C_drewN ?_ _) | (with_reducible refine Kd.C_drew ?_)))
            (case side2 => exact HC222_5.out)
            rintro e w18 ⟨rfl, hb⟩
            refine ⟨_, rfl, ?_⟩
            replace HB := Aside0.mk (below_step (by repeat (first | (with_reducible first | exact HB.out | apply below_alloc | apply pw_below_drewN | apply below_drew1) | exact HB.out)) hb)
            (try clear hb)
            (try clear hb2)
            (try clear hk)
            (try clear hi)
            refine hK.out _ _ ⟨((HB.out.cell (World.block_lt_of_cell? w _ hw222_0)).trans hw222_0), ((HB.out.cell (World.block_lt_of_cell? w _ hw222_1)).trans hw222_1), ((HB.out.cell (World.block_lt_of_cell? w _ hw222_2)).trans hw222_2), ((HB.out.cell (World.block_lt_of_cell? w _ hw222_3)).trans hw222_3), ((HB.out.cell (World.block_lt_of_cell? w _ hw222_4)).trans hw222_4), ((HB.out.cell (World.block_lt_of_cell? w _ hw222_5)).trans hw222_5)⟩ (fun hHeld => ?_)
            clear hK K
            refine norm_ (a' := ?_) ?_ ?_
            rotate_left
            · show Act.put _ (some 14) _ = _
              simp only [Act.put, List.setIfInBounds_toArray, List.set_cons_zero, List.set_cons_succ, i64_w, i32_w]
              rfl
            have Q_ := Qs.mk (n := 24) [(0, 5, 15, 63), (0, 6, 16, 127), (1, 7, 17, 255), (1, 8, 18, 511), (1, 9, 19, 1023), (1, 10, 20, 2047), (1, 11, 21, 4095), (1, 12, 22, 8191), (1, 13, 23, 16383), (1, 14, 24, 32767), (1, 15, 25, 65535), (1, 16, 26, 131071), (1, 17, 27, 262143), (1, 18, 28, 524287), (1, 19, 29, 1048575), (1, 20, 30, 2097151), (1, 21, 31, 4194303), (1, 22, 32, 8388607), (0, 23, 33, 16777215)]
            iterate 19 (first | (obtain ⟨q_, Q_⟩ := Qs.p Q_; refine pureQ_ q_ (v := ?_) (a' := ?_) rfl rfl (any_of HT_.out (by kernel_rfl)) (fun _ _ _ h => h) (Or.inl ⟨by rfl, ?_⟩) ?_ ?_; rotate_left; (intro w'; go_simp; with_reducible rfl); rotate_left; (simp only [Act.put, List.setIfInBounds_toArray, List.set_cons_zero, List.set_cons_succ, i64_w, i32_w]; rfl)) | (obtain ⟨q_, Q_⟩ := Qs.u Q_; refine pureQ_ q_ (v := undef) (a' := ?_) rfl rfl (any_of HT_.out (by kernel_rfl)) (fun _ _ _ h => h) (Or.inr ⟨by rfl, rfl⟩) ?_ ?_; rotate_left; (simp only [Act.put, List.setIfInBounds_toArray, List.set_cons_zero, List.set_cons_succ, i64_w, i32_w]; rfl)))
            clear Q_
            refine done_ (done_of HT_.out (by kernel_rfl)) ?_
            try go_wp2
            go_ret
            exact ⟨by first | rfl | (simp [errW_none, errW_some] <;> rfl) | (simp [*, errW_none, errW_some] <;> rfl), by repeat (first | (with_reducible first | exact HB.out | apply below_alloc | apply pw_below_drewN | apply below_drew1) | exact HB.out)⟩
        · rw [if_neg c3] at H
          exact absurd H (by simp)
      · rw [if_neg c2] at H
        have c2b0 : decide (x3_1 < (l0.length : Int)) = false := decide_eq_false c2
        clear c2
        obtain rfl := Option.some.inj H
        go_wp2
        go_ret
        exact ⟨by first | rfl | (simp [errW_none, errW_some] <;> rfl) | (simp [*, errW_none, errW_some] <;> rfl), by repeat (first | (with_reducible first | exact HB.out | apply below_alloc | apply pw_below_drewN | apply below_drew1) | exact HB.out)⟩

end Go.Proofs.Ytkhdpmbjjcmooaa.F
