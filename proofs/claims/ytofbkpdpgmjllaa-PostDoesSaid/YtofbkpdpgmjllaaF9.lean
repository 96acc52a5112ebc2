-- Written by a program of this session (xprint.py), out of the translation and of contracts proved by hand.
import Derived.Test.YtofbkpdpgmjllaaF0
namespace Go.Proofs.Ytofbkpdpgmjllaa.F
open Go.RowKit Go.Proofs.YtofbkpdpgmjllaaV.PrintWords Go.Proofs.YtofbkpdpgmjllaaV.PrintLast Go.Proofs.YtofbkpdpgmjllaaV.PrintMore
attribute [local go_sem] max2_int min2_int max_two min_two max_three min_three max_four min_four   -- for this text's walks alone
set_option linter.unusedVariables false
set_option linter.unusedSimpArgs false

/-! ### watchmanref21_without: function 33 -/
def watchmanref21_without.l0 : Nat → List (S35) → Int → List (S35) → Int → Option ((List (S35)))
  | 0, _, _, _, _ => none
  | k + 1, x0, x1, x5, x6 => if x6 < (x0.length : Int) then (if 0 ≤ x6 then (if ((rd_T35 x0 x6).f0) = x1 then (watchmanref21_without.l0 k x0 x1 x5 (wrap64 (x6 + 1))) else (if x5.length < 3518437208883 then (watchmanref21_without.l0 k x0 x1 (x5 ++ [(⟨(rd_T35 x0 x6).f0, (rd_T35 x0 x6).f1, (rd_T35 x0 x6).f2, (rd_T35 x0 x6).f3⟩ : S35)]) (wrap64 (x6 + 1))) else (none))) else (none)) else (some x5)
def watchmanref21_without.f (k : Nat) (l0 : List (S35)) (a1 : Int) : Option ((List (S35))) := watchmanref21_without.l0 k l0 a1 ([] : List (S35)) 0
theorem watchmanref21_without.mono_l : ∀ k, (∀ y0 y1 y2 y3, LeO (watchmanref21_without.l0 k y0 y1 y2 y3) (watchmanref21_without.l0 (k + 1) y0 y1 y2 y3))
  | 0 => fun _ _ _ _ r h => by simp [watchmanref21_without.l0] at h
  | k + 1 => by
    have ih0 := watchmanref21_without.mono_l k
    · intro y0 y1 y2 y3
      unfold watchmanref21_without.l0
      repeat' first
      | (with_reducible exact ih0 _ _ _ _)
      | (with_reducible exact LeO.refl _)
      | (with_reducible exact LeO.none _)
      | (with_reducible refine LeO.ite ?_ ?_)
      | (with_reducible refine LeO.bind ?_ (fun _ => ?_))
      | exact ih0 _ _ _ _
      | exact LeO.none _
      | refine LeO.ite ?_ ?_
      | refine LeO.bind ?_ (fun _ => ?_)
theorem watchmanref21_without.mono : ∀ a0 a1 k, LeO (watchmanref21_without.f k a0 a1) (watchmanref21_without.f (k + 1) a0 a1) := by
  intro a0 a1 k
  have ih0 := watchmanref21_without.mono_l k
  unfold watchmanref21_without.f
  repeat' first
      | (with_reducible exact ih0 _ _ _ _)
      | (with_reducible exact LeO.refl _)
      | (with_reducible exact LeO.none _)
      | (with_reducible refine LeO.ite ?_ ?_)
      | (with_reducible refine LeO.bind ?_ (fun _ => ?_))
      | exact ih0 _ _ _ _
      | exact LeO.none _
      | refine LeO.ite ?_ ?_
      | refine LeO.bind ?_ (fun _ => ?_)
set_option maxHeartbeats 8000000 in
set_option maxRecDepth 100000 in
theorem watchmanref21_without.calls (k : Nat) (A0 : Option Addr) (c0 : Nat) (l0 : List (S35)) (a1 : Int) (r : List (S35)) (w : World) (hr0 : Kd.C k35 w A0 l0.length l0) (hc0 : l0.length ≤ c0) (h : watchmanref21_without.f k l0 a1 = some r) :
    Calls Try.prog 33 #[.slice A0 l0.length c0, .int .i64 a1] w fun e w' => ∃ v0_ : Value, e = .returned (v0_) ∧ Kd.R k35 35 w' w.heap.size (fun _ => True) v0_ r ∧ Below w.heap.size w w' := by
  have hu35 := Try.underlying35
  have HR0 := Aside0.mk hr0
  have HC0 := Aside0.mk hc0
  clear hr0 hc0
  have HB := Aside0.mk (Below.refl w.heap.size w)
  have H : (watchmanref21_without.l0 k l0 a1 ([] : List (S35)) 0) = some r := h
  clear h
  have H' := Aside0.mk H
  clear H
  go_enter Try.func33, Try.ntmps33
  go_wp2
  go_loopg [5, 6] k (fun kq v5 v6 w' => ∃ (x5_1 : List (S35)) (x6_1 : Int), v6 = .int .i64 x6_1 ∧ Aside0 (watchmanref21_without.l0 kq l0 a1 x5_1 x6_1 = some r) ∧ Aside0 (kq ≤ k) ∧ Aside0 (Kd.R k35 35 w' w.heap.size (fun _ => True) v5 x5_1) ∧ Aside0 (Below w.heap.size w w'))
  case atStart => exact ⟨(([] : List (S35))), (0), (by first | rfl | (simp; done) | (simp [*]; done)), H', ⟨Nat.le_refl _⟩, ⟨by first | exact Kd.R_nil _ _ _ _ _ | exact Kd.N_nil _ _ _ _ _ | exact Kd.V_nil _ _ _ _ _ | exact Kd.Q_nil _ _ _ _ _ | exact Kd.S_nil _ _ _ _ _⟩, ⟨by repeat (with_reducible first | exact HB.out | apply pw_below_drewN | apply below_drew1)⟩⟩
  case round =>
    clear H'
    try clear p2
    obtain ⟨x5_1, x6_1, rfl, HA, HK1, HO_5, HB⟩ := hrel
    cases gk with
    | zero => exact absurd HA.out (by simp [watchmanref21_without.l0])
    | succ k1 =>
      have H := HA.out
      clear HA
      simp only [watchmanref21_without.l0] at H
      by_cases c3 : x6_1 < (l0.length : Int)
      · rw [if_pos c3] at H
        have c3b0 : decide (x6_1 < (l0.length : Int)) = true := decide_eq_true c3
        clear c3
        by_cases c4 : 0 ≤ x6_1
        · rw [if_pos c4] at H
          have c4b0 : decide (0 ≤ x6_1) = true := decide_eq_true c4
          clear c4
          by_cases c5 : ((rd_T35 l0 x6_1).f0) = a1
          · rw [if_pos c5] at H
            have c5b0 : (((rd_T35 l0 x6_1).f0) == a1) = true := beq_iff_eq.mpr c5
            have c5b1 : (((rd_T35 l0 x6_1).f0) != a1) = false := bne_eq_false_iff_eq.mpr c5
            clear c5
            have H' := Aside0.mk H
            clear H
            have p127 : 0 ≤ (x6_1 : Int) := of_decide_eq_true (by first | (with_reducible assumption) | assumption)
            have q127 : x6_1 < (l0.length : Int) := of_decide_eq_true (by first | (with_reducible assumption) | assumption)
            obtain ⟨ad127, e127, hx127_0, hx127_1, hx127_2, hx127_3⟩ := at_T35 HR0.out x6_1 p127 q127
            cases e127
            replace hx127_0 := (HB.out.cell (World.block_lt_of_cell? w _ hx127_0)).trans hx127_0
            replace hx127_1 := (HB.out.cell (World.block_lt_of_cell? w _ hx127_1)).trans hx127_1
            replace hx127_2 := (HB.out.cell (World.block_lt_of_cell? w _ hx127_2)).trans hx127_2
            replace hx127_3 := (HB.out.cell (World.block_lt_of_cell? w _ hx127_3)).trans hx127_3
            replace p127 := eq_true p127
            replace q127 := eq_true q127
            go_wp2
            go_roundg k1
            case measure => have := HK1.out; omega
            case rel => exact ⟨(x5_1), (wrap64 (x6_1 + 1)), (by first | rfl | (simp; done) | (simp [*]; done)), H', ⟨by have := HK1.out; omega⟩, ⟨by (with_reducible repeat (first | apply Kd.R_alloc | apply Kd.R_drewN | apply Kd.R_drew)); exact HO_5.out⟩, ⟨by repeat (with_reducible first | exact HB.out | apply pw_below_drewN | apply below_drew1)⟩⟩
          · rw [if_neg c5] at H
            have c5b0 : (((rd_T35 l0 x6_1).f0) == a1) = false := beq_eq_false_iff_ne.mpr c5
            have c5b1 : (((rd_T35 l0 x6_1).f0) != a1) = true := bne_iff_ne.mpr c5
            by_cases c6 : x5_1.length < 3518437208883
            · rw [if_pos c6] at H
              have LMc6 := Aside0.mk c6
              clear c6
              obtain ⟨y129, hy129⟩ : ∃ y_ : List (S35), y_ = (x5_1 ++ [(⟨(rd_T35 l0 x6_1).f0, (rd_T35 l0 x6_1).f1, (rd_T35 l0 x6_1).f2, (rd_T35 l0 x6_1).f3⟩ : S35)]) := ⟨_, rfl⟩
              replace H : (watchmanref21_without.l0 k1 l0 a1 y129 (wrap64 (x6_1 + 1))) = some r := by first | (rw [hy129]; with_reducible exact H) | (have H2_ := (Option.bind_some _ _).symm.trans H; rw [hy129]; with_reducible exact H2_) | (have H2_ := (Option.bind_some _ _).symm.trans H; with_reducible exact H2_) | with_reducible exact H | (rw [hy129]; exact H) | exact H
              have Ny129 := Aside0.mk hy129
              clear hy129
              have H' := Aside0.mk H
              clear H
              have p127 : 0 ≤ (x6_1 : Int) := of_decide_eq_true (by first | (with_reducible assumption) | assumption)
              have q127 : x6_1 < (l0.length : Int) := of_decide_eq_true (by first | (with_reducible assumption) | assumption)
              obtain ⟨ad127, e127, hx127_0, hx127_1, hx127_2, hx127_3⟩ := at_T35 HR0.out x6_1 p127 q127
              cases e127
              replace hx127_0 := (HB.out.cell (World.block_lt_of_cell? w _ hx127_0)).trans hx127_0
              replace hx127_1 := (HB.out.cell (World.block_lt_of_cell? w _ hx127_1)).trans hx127_1
              replace hx127_2 := (HB.out.cell (World.block_lt_of_cell? w _ hx127_2)).trans hx127_2
              replace hx127_3 := (HB.out.cell (World.block_lt_of_cell? w _ hx127_3)).trans hx127_3
              replace p127 := eq_true p127
              replace q127 := eq_true q127
              have p128 : 0 ≤ (x6_1 : Int) := of_decide_eq_true (by first | (with_reducible assumption) | assumption)
              have q128 : x6_1 < (l0.length : Int) := of_decide_eq_true (by first | (with_reducible assumption) | assumption)
              obtain ⟨ad128, e128, hx128_0, hx128_1, hx128_2, hx128_3⟩ := at_T35 HR0.out x6_1 p128 q128
              obtain rfl : ad127 = ad128 := (by injection e128)
              replace hx128_0 := (HB.out.cell (World.block_lt_of_cell? w _ hx128_0)).trans hx128_0
              replace hx128_1 := (HB.out.cell (World.block_lt_of_cell? w _ hx128_1)).trans hx128_1
              replace hx128_2 := (HB.out.cell (World.block_lt_of_cell? w _ hx128_2)).trans hx128_2
              replace hx128_3 := (HB.out.cell (World.block_lt_of_cell? w _ hx128_3)).trans hx128_3
              replace p128 := eq_true p128
              replace q128 := eq_true q128
              go_wp2_with (first | ((with_reducible refine gate_builtin (b := .append) (xs := #[.tmp 20, .tmp 25]) rfl ?_); at_builtin; refine Kd.R_append k35 (w0 := w) w.heap.size rfl (.tmp 20) (.tmp 25) 22 35 (.agg #[(.int .i64 0), (.int .i64 0), (.int .i64 0), (.string ⟨#[]⟩)]) 40 rfl Try.underlying22 info35 rfl (by decide) (by omega) u5 x5_1 (⟨(rd_T35 l0 x6_1).f0, (rd_T35 l0 x6_1).f1, (rd_T35 l0 x6_1).f2, (rd_T35 l0 x6_1).f3⟩ : S35) [.int .i64 ((rd_T35 l0 x6_1).f0), .int .i64 ((rd_T35 l0 x6_1).f1), .int .i64 ((rd_T35 l0 x6_1).f2), .string ((rd_T35 l0 x6_1).f3)] (fun _ => True) (fun _ => False) rfl rfl ?aP (fun _ hk => hk.elim) ?aF ?aO ?aB ?aS ?aL ?_; (case aP => exact k35_mkM _ _ _ (⟨(rd_T35 l0 x6_1).f0, (rd_T35 l0 x6_1).f1, (rd_T35 l0 x6_1).f2, (rd_T35 l0 x6_1).f3⟩ : S35)); (case aB => exact HB.out); (case aF => exact (fun _ _ => trivial)); (case aO => exact (HO_5.out)); (case aS => exact (below_size HB.out)); (case aL => have := LMc6.out; omega); intro v130 w7 ho hb hg hat; rw [← Ny129.out] at ho; replace HB := Aside0.mk (hb); have HO131 := Aside0.mk (ho); clear HO_5; clear ho hb hg hat))
              go_roundg k1
              case measure => have := HK1.out; omega
              case rel => exact ⟨(y129), (wrap64 (x6_1 + 1)), (by first | rfl | (simp; done) | (simp [*]; done)), H', ⟨by have := HK1.out; omega⟩, ⟨by (with_reducible repeat (first | apply Kd.R_alloc | apply Kd.R_drewN | apply Kd.R_drew)); exact HO131.out⟩, ⟨by repeat (with_reducible first | exact HB.out | apply pw_below_drewN | apply below_drew1)⟩⟩
            · rw [if_neg c6] at H
              exact absurd H (by simp)
        · rw [if_neg c4] at H
          exact absurd H (by simp)
      · rw [if_neg c3] at H
        have c3b0 : decide (x6_1 < (l0.length : Int)) = false := decide_eq_false c3
        clear c3
        obtain rfl := Option.some.inj H
        go_wp2
        go_ret
        exact ⟨_, by first | rfl | (simp [errW_none, errW_some] <;> rfl) | (simp [*, errW_none, errW_some] <;> rfl), by (with_reducible repeat (first | apply Kd.R_alloc | apply Kd.R_drewN | apply Kd.R_drew)); exact HO_5.out, by repeat (with_reducible first | exact HB.out | apply pw_below_drewN | apply below_drew1)⟩

end Go.Proofs.Ytofbkpdpgmjllaa.F
