-- Written by a program of this session (xprint.py), out of the translation and of contracts proved by hand.
import Derived.Test.YtkhdpmbjjcmooaaF0
import Derived.Test.YtkhdpmbjjcmooaaF10
namespace Go.Proofs.Ytkhdpmbjjcmooaa.F
open Go.RowKit Go.Proofs.YtkhdpmbjjcmooaaV.PrintWords Go.Proofs.YtkhdpmbjjcmooaaV.PrintLast Go.Proofs.YtkhdpmbjjcmooaaV.PrintMore
attribute [local go_sem] max2_int min2_int max_two min_two max_three min_three max_four min_four   -- for this text's walks alone
set_option linter.unusedVariables false
set_option linter.unusedSimpArgs false

/-! ### session_Oldest: function 23 -/
def session_Oldest.f (k : Nat) (l0 : List (S39)) : Option (Int × Bool) := if (l0.length : Int) = 0 then (some (0, false)) else (if 0 < (l0.length : Int) then (if 1 ≤ (l0.length : Int) then ((session_oldestJ.f k ((rd_T39 l0 0).f0) ((rd_T39 l0 0).f1) ((rd_T39 l0 0).f2) ((rd_T39 l0 0).f3.f0) ((rd_T39 l0 0).f3.f1) ((rd_T39 l0 0).f3.f2) (l0.drop 1)).bind fun bt438 => (some (bt438.1, true))) else (none)) else (none))
theorem session_Oldest.mono : ∀ a0 k, LeO (session_Oldest.f k a0) (session_Oldest.f (k + 1) a0) := by
  intro a0 k
  unfold session_Oldest.f
  repeat' first
      | (with_reducible exact session_oldestJ.mono _ _ _ _ _ _ _ _)
      | (with_reducible exact LeO.refl _)
      | (with_reducible exact LeO.none _)
      | (with_reducible refine LeO.ite ?_ ?_)
      | (with_reducible refine LeO.bind ?_ (fun _ => ?_))
      | exact session_oldestJ.mono _ _ _ _ _ _ _ _
      | exact LeO.none _
      | refine LeO.ite ?_ ?_
      | refine LeO.bind ?_ (fun _ => ?_)
def session_Oldest.T3 : Bool × List (List Nat × List Nat) := (true, [([], []), ([0], [0]), ([1], [1]), ([], []), ([3], [3]), ([2, 4], [2, 4]), ([5], [5]), ([6, 5, 0, 1, 2, 3, 4, 5, 6], [6]), ([7, 0, 1, 2, 3, 4, 5, 6, 7], [])])
def session_Oldest.B3 : List Nat := [0, 1, 3, 0, 8, 31, 63, 127, 255]
theorem session_Oldest.tab3 : rtab .any (opsOf Try.f23 3) = session_Oldest.T3 := by kernel_rfl
theorem session_Oldest.bits3 : waitsOk session_Oldest.T3.2 session_Oldest.B3 = true := by kernel_rfl
set_option maxHeartbeats 8000000 in
set_option maxRecDepth 100000 in
theorem session_Oldest.calls (k : Nat) (A0 : Option Addr) (c0 : Nat) (l0 : List (S39)) (r1 : Int) (r2 : Bool) (w : World) (hr0 : Kd.C k39 w A0 l0.length l0) (hc0 : l0.length ≤ c0) (h : session_Oldest.f k l0 = some (r1, r2)) :
    Calls Try.prog 23 #[.slice A0 l0.length c0] w fun e w' => e = .returned (.tuple #[.int .i64 r1, .bool r2]) ∧ Below w.heap.size w w' := by
  have hu39 := Try.underlying39
  have HR0 := Aside0.mk hr0
  have HC0 := Aside0.mk hc0
  clear hr0 hc0
  have HB := Aside0.mk (Below.refl w.heap.size w)
  have H : (if (l0.length : Int) = 0 then (some (0, false)) else (if 0 < (l0.length : Int) then (if 1 ≤ (l0.length : Int) then ((session_oldestJ.f k ((rd_T39 l0 0).f0) ((rd_T39 l0 0).f1) ((rd_T39 l0 0).f2) ((rd_T39 l0 0).f3.f0) ((rd_T39 l0 0).f3.f1) ((rd_T39 l0 0).f3.f2) (l0.drop 1)).bind fun bt438 => (some (bt438.1, true))) else (none)) else (none))) = some (r1, r2) := h
  clear h
  by_cases c2 : (l0.length : Int) = 0
  · rw [if_pos c2] at H
    have c2b0 : ((l0.length : Int) == 0) = true := beq_iff_eq.mpr c2
    have c2b1 : ((l0.length : Int) != 0) = false := bne_eq_false_iff_eq.mpr c2
    clear c2
    simp only [Option.some.injEq, Prod.mk.injEq] at H
    obtain ⟨rfl, rfl⟩ := H
    go_enter Try.func23, Try.ntmps23
    go_wp2
    go_ret2
    exact ⟨by first | rfl | (simp [errW_none, errW_some] <;> rfl) | (simp [*, errW_none, errW_some] <;> rfl), by repeat (first | (with_reducible first | exact HB.out | apply below_alloc | apply pw_below_drewN | apply below_drew1) | exact HB.out)⟩
  · rw [if_neg c2] at H
    have c2b0 : ((l0.length : Int) == 0) = false := beq_eq_false_iff_ne.mpr c2
    have c2b1 : ((l0.length : Int) != 0) = true := bne_iff_ne.mpr c2
    have c2b2 : ¬ (l0 = []) := fun h_ => c2 (by rw [h_]; rfl)
    by_cases c3 : 0 < (l0.length : Int)
    · rw [if_pos c3] at H
      have c3b0 : decide (0 < (l0.length : Int)) = true := decide_eq_true c3
      have c3b1 : decide (0 < l0.length) = true := decide_eq_true (by omega)
      clear c3
      by_cases c4 : 1 ≤ (l0.length : Int)
      · rw [if_pos c4] at H
        have c4b0 := eq_true c4
        have c4b1 : decide (1 ≤ (l0.length : Int)) = true := decide_eq_true c4
        clear c4
        obtain ⟨y434, hy434⟩ : ∃ y_ : List (S39), y_ = (l0.drop 1) := ⟨_, rfl⟩
        replace H : ((session_oldestJ.f k ((rd_T39 l0 0).f0) ((rd_T39 l0 0).f1) ((rd_T39 l0 0).f2) ((rd_T39 l0 0).f3.f0) ((rd_T39 l0 0).f3.f1) ((rd_T39 l0 0).f3.f2) y434).bind fun bt438 => (some (bt438.1, true))) = some (r1, r2) := by first | (rw [hy434]; with_reducible exact H) | (have H2_ := (Option.bind_some _ _).symm.trans H; rw [hy434]; with_reducible exact H2_) | (have H2_ := (Option.bind_some _ _).symm.trans H; with_reducible exact H2_) | with_reducible exact H | (rw [hy434]; exact H) | exact H
        have Ny434 := Aside0.mk hy434
        clear hy434
        replace H := Option.bind_eq_some_iff.mp H
        obtain ⟨⟨t438, t439, t440, t441, t442, t443⟩, A50, H⟩ := H
        replace H : (some (t438, true)) = some (r1, r2) := H
        have A5 := Aside0.mk A50
        clear A50
        simp only [Option.some.injEq, Prod.mk.injEq] at H
        obtain ⟨rfl, rfl⟩ := H
        go_enter Try.func23, Try.ntmps23
        try go_wp2
        have n0_ := Aside0.mk (below_drew1 HB.out)
        clear HB
        have HB := n0_
        clear n0_
        have p433 : 0 ≤ (0 : Int) := (by omega)
        have q433 : 0 < (l0.length : Int) := of_decide_eq_true (by first | (with_reducible assumption) | assumption)
        obtain ⟨ad433, A433_5, c433_5, e433, hx433_0, hx433_1, hx433_2, hx433_3, hx433_4, hx433_5, hl433_5, hi433_5⟩ := at_T39 HR0.out 0 p433 q433
        have hw433_5 := hx433_5
        (try rw [show ((0 : Int)).toNat = 0 from rfl] at hw433_5)
        (try rw [show 0 * 6 = 0 from rfl] at hw433_5)
        (try rw [Addr.add_zero'] at hw433_5)
        have hw433_4 := hx433_4
        (try rw [show ((0 : Int)).toNat = 0 from rfl] at hw433_4)
        (try rw [show 0 * 6 = 0 from rfl] at hw433_4)
        (try rw [Addr.add_zero'] at hw433_4)
        have hw433_3 := hx433_3
        (try rw [show ((0 : Int)).toNat = 0 from rfl] at hw433_3)
        (try rw [show 0 * 6 = 0 from rfl] at hw433_3)
        (try rw [Addr.add_zero'] at hw433_3)
        have hw433_2 := hx433_2
        (try rw [show ((0 : Int)).toNat = 0 from rfl] at hw433_2)
        (try rw [show 0 * 6 = 0 from rfl] at hw433_2)
        (try rw [Addr.add_zero'] at hw433_2)
        have hw433_1 := hx433_1
        (try rw [show ((0 : Int)).toNat = 0 from rfl] at hw433_1)
        (try rw [show 0 * 6 = 0 from rfl] at hw433_1)
        (try rw [Addr.add_zero'] at hw433_1)
        have hw433_0 := hx433_0
        (try rw [show ((0 : Int)).toNat = 0 from rfl] at hw433_0)
        (try rw [show 0 * 6 = 0 from rfl] at hw433_0)
        (try rw [Addr.add_zero'] at hw433_0)
        cases e433
        have qi433 : (0 < l0.length) = True := eq_true (by omega)
        (try rw [show ((0 : Int)).toNat = 0 from rfl] at hx433_0)
        (try rw [show 0 * 6 = 0 from rfl] at hx433_0)
        (try rw [Addr.add_zero'] at hx433_0)
        (try rw [show ((0 : Int)).toNat = 0 from rfl] at hx433_1)
        (try rw [show 0 * 6 = 0 from rfl] at hx433_1)
        (try rw [Addr.add_zero'] at hx433_1)
        (try rw [show ((0 : Int)).toNat = 0 from rfl] at hx433_2)
        (try rw [show 0 * 6 = 0 from rfl] at hx433_2)
        (try rw [Addr.add_zero'] at hx433_2)
        (try rw [show ((0 : Int)).toNat = 0 from rfl] at hx433_3)
        (try rw [show 0 * 6 = 0 from rfl] at hx433_3)
        (try rw [Addr.add_zero'] at hx433_3)
        (try rw [show ((0 : Int)).toNat = 0 from rfl] at hx433_4)
        (try rw [show 0 * 6 = 0 from rfl] at hx433_4)
        (try rw [Addr.add_zero'] at hx433_4)
        (try rw [show ((0 : Int)).toNat = 0 from rfl] at hx433_5)
        (try rw [show 0 * 6 = 0 from rfl] at hx433_5)
        (try rw [Addr.add_zero'] at hx433_5)
        replace hx433_0 := (HB.out.cell (World.block_lt_of_cell? w _ hx433_0)).trans hx433_0
        replace hx433_1 := (HB.out.cell (World.block_lt_of_cell? w _ hx433_1)).trans hx433_1
        replace hx433_2 := (HB.out.cell (World.block_lt_of_cell? w _ hx433_2)).trans hx433_2
        replace hx433_3 := (HB.out.cell (World.block_lt_of_cell? w _ hx433_3)).trans hx433_3
        replace hx433_4 := (HB.out.cell (World.block_lt_of_cell? w _ hx433_4)).trans hx433_4
        replace hx433_5 := (HB.out.cell (World.block_lt_of_cell? w _ hx433_5)).trans hx433_5
        have HR433_5 := Aside0.mk hi433_5
        have HC433_5 := Aside0.mk hl433_5
        clear hi433_5 hl433_5
        replace p433 := eq_true p433
        replace q433 := eq_true q433
        have q7 : (1 : Int) ≤ ((l0.length : Int) : Int) := of_decide_eq_true (by first | (with_reducible assumption) | assumption)
        obtain ⟨i07, hi07, _, hsz7, _⟩ := info_parts info39
        have hroom7 : l0.length ≤ c0 := HC0.out
        have hC7 : Kd.C k39 _ (some ad433) l0.length l0 := HR0.out
        have hcut7 := cut_from (P := Try.prog) 22 39 .i64 Try.underlying22 hi07 6 hsz7 (some ad433) l0.length c0 1 (by omega) q7
        have hr7 := Kd.C_drop (m := (1 : Int).toNat) (c := c0) hC7 (by omega) hroom7
        obtain ⟨A7, hA7⟩ : ∃ A1, A1 = (if c0 = (1 : Int).toNat then (some ad433) else ((some ad433) : Option Addr).map (·.add ((1 : Int).toNat * 6))) := ⟨_, rfl⟩
        obtain ⟨c7, hc7⟩ : ∃ c1, c1 = c0 - (1 : Int).toNat := ⟨_, rfl⟩
        have hy7 : y434.length = l0.length - (1 : Int).toNat := (by rw [Ny434.out, List.length_drop] <;> omega)
        rw [show (l0).drop (1 : Int).toNat = y434 from Ny434.out.symm] at hr7
        replace hr7 : Kd.C k39 _ A7 y434.length y434 := (by rw [hA7]; exact hr7)
        rw [← hy7, ← hA7, ← hc7] at hcut7
        have HR437 := Aside0.mk hr7
        have HC437 := Aside0.mk (show y434.length ≤ c7 from by rw [hy7, hc7]; exact Nat.sub_le_sub_right hroom7 _)
        clear hr7 hC7 hroom7 hi07 hsz7 hc7
        have KY7 := Aside0.mk hy7
        have KA7 := Aside0.mk hA7
        clear hy7 hA7
        replace q7 := eq_true q7
        refine start_ (n := 9) (S := fun w' => w'.cell? ad433 = some (.int .i64 ((rd_T39 l0 0).f0)) ∧ w'.cell? ⟨ad433.block, ad433.off + 1, none⟩ = some (.int .i64 ((rd_T39 l0 0).f1)) ∧ w'.cell? ⟨ad433.block, ad433.off + 2, none⟩ = some (.int .i64 ((rd_T39 l0 0).f2)) ∧ w'.cell? ⟨ad433.block, ad433.off + 3, none⟩ = some (.int .i64 ((rd_T39 l0 0).f3.f0)) ∧ w'.cell? ⟨ad433.block, ad433.off + 4, none⟩ = some (.int .i64 ((rd_T39 l0 0).f3.f1)) ∧ w'.cell? ⟨ad433.block, ad433.off + 5, none⟩ = some (.slice A433_5 ((rd_T39 l0 0).f3.f2).length c433_5)) (ds := []) #[false, false, false, false, false, false, false, false, false] (by kernel_rfl) rfl rfl ⟨((HB.out.cell (World.block_lt_of_cell? w _ hw433_0)).trans hw433_0), ((HB.out.cell (World.block_lt_of_cell? w _ hw433_1)).trans hw433_1), ((HB.out.cell (World.block_lt_of_cell? w _ hw433_2)).trans hw433_2), ((HB.out.cell (World.block_lt_of_cell? w _ hw433_3)).trans hw433_3), ((HB.out.cell (World.block_lt_of_cell? w _ hw433_4)).trans hw433_4), ((HB.out.cell (World.block_lt_of_cell? w _ hw433_5)).trans hw433_5)⟩ (fun hHeld => ?_); refine with_tabW session_Oldest.tab3 session_Oldest.bits3 (fun HT_ HW_ => ?_)
        generalize w.drew = w6 at HB HR433_5 HR437 hx433_0 hx433_1 hx433_2 hx433_3 hx433_4 hx433_5 hHeld ⊢
        refine pure_ (i := 0) (N := some 7) (v := ?_) (a' := ?_) (dn_ 1 9) rfl rfl (any_of HT_.out (by kernel_rfl)) (fun _ _ _ h => h) (Or.inl ⟨by rfl, ?_⟩) ?_ ?_
        rotate_left
        · intro w'
          go_simp
          first | with_reducible rfl | (unfold Instr.field; simp only [go_sem, run_underlying Try.underlying39]; go_simp; rfl)
        rotate_left
        · simp only [Act.put, List.setIfInBounds_toArray, List.set_cons_zero, List.set_cons_succ, i64_w, i32_w]
          rfl
        refine pure_ (i := 1) (N := some 8) (v := ?_) (a' := ?_) (dn_ 2 9) rfl rfl (any_of HT_.out (by kernel_rfl)) (fun _ _ _ h => h) (Or.inl ⟨by rfl, ?_⟩) ?_ ?_
        rotate_left
        · intro w'
          go_simp
          first | with_reducible rfl | (unfold Instr.field; simp only [go_sem, run_underlying Try.underlying39]; go_simp; rfl)
        rotate_left
        · simp only [Act.put, List.setIfInBounds_toArray, List.set_cons_zero, List.set_cons_succ, i64_w, i32_w]
          rfl
        refine pure_ (i := 3) (N := some 10) (v := ?_) (a' := ?_) #[true, true, false, true, false, false, false, false, false] rfl rfl (any_of HT_.out (by kernel_rfl)) (fun _ _ _ h => h) (Or.inl ⟨by rfl, ?_⟩) ?_ ?_
        rotate_left
        · intro w'
          go_simp
          first | with_reducible rfl | (unfold Instr.field; simp only [go_sem, run_underlying Try.underlying39]; go_simp; rfl)
        rotate_left
        · simp only [Act.put, List.setIfInBounds_toArray, List.set_cons_zero, List.set_cons_succ, i64_w, i32_w]
          rfl
        refine pure_ (i := 4) (N := some 11) (v := ?_) (a' := ?_) #[true, true, false, true, true, false, false, false, false] rfl rfl (any_of HT_.out (by kernel_rfl)) (fun _ _ _ h => h) (Or.inl ⟨by rfl, ?_⟩) ?_ ?_
        rotate_left
        · intro w'
          go_simp
          first | with_reducible rfl | (unfold Instr.field; simp only [go_sem, run_underlying Try.underlying39]; go_simp; rfl)
        rotate_left
        · simp only [Act.put, List.setIfInBounds_toArray, List.set_cons_zero, List.set_cons_succ, i64_w, i32_w]
          rfl
        refine take_ (i := 2) (N := some 9) (v := ?_) (a' := ?_) (dn_ 5 9) rfl rfl (take_ofW HT_.out HW_.out (by kernel_rfl)) (fun _ _ _ h => h) (Or.inl ⟨by rfl, ?_⟩) hHeld ?_ ?_
        rotate_left
        · rintro w' ⟨s0, s1, s2, s3, s4, s5⟩
          go_simp
          first | with_reducible rfl | (unfold Instr.field; simp only [go_sem, run_underlying Try.underlying39]; go_simp; rfl)
        rotate_left
        · simp only [Act.put, List.setIfInBounds_toArray, List.set_cons_zero, List.set_cons_succ, i64_w, i32_w]
          rfl
        refine one_ (i := 5) (N := some 12) (dn_ 6 9) rfl rfl (one_of HT_.out (by kernel_rfl)) (by decide) (fun K hK => ?_)
        refine goes_ Try.func36 (by kernel_rfl) rfl #[.agg #[.int .i64 ((rd_T39 l0 0).f0), .int .i64 ((rd_T39 l0 0).f1), .int .i64 ((rd_T39 l0 0).f2), .int .i64 ((rd_T39 l0 0).f3.f0), .int .i64 ((rd_T39 l0 0).f3.f1), .slice A433_5 ((rd_T39 l0 0).f3.f2).length c433_5], .slice A7 y434.length c7] (by rfl) rfl rfl (by (try simp only [List.map_toArray, List.map_cons, List.map_nil]); first | done | rfl | (simp only [List.length_drop, List.length_take]; rfl)) ?_
        with_reducible refine (session_oldestJ.calls k ((rd_T39 l0 0).f0) ((rd_T39 l0 0).f1) ((rd_T39 l0 0).f2) ((rd_T39 l0 0).f3.f0) ((rd_T39 l0 0).f3.f1) _ _ ((rd_T39 l0 0).f3.f2) _ _ y434 t438 t439 t440 t441 t442 t443 _ ?side1 ?side2 ?side3 ?side4 A5.out).mono ?_
        (case side1 => repeat (first | exact (Kd.C_below HR433_5.out HB.out) | (with_reducible refine Kd.C_alloc ?_ _) | (with_reducible refine Kd.C_drewN ?_ _) | (with_reducible refine Kd.C_drew ?_)))
        (case side2 => exact HC433_5.out)
        (case side3 => repeat (first | exact (Kd.C_below HR437.out HB.out) | (with_reducible refine Kd.C_alloc ?_ _) | (with_reducible refine Kd.C_drewN ?_ _) | (with_reducible refine Kd.C_drew ?_)))
        (case side4 => exact HC437.out)
        rintro e w8 ⟨v444, rfl, hb⟩
        refine ⟨_, rfl, ?_⟩
        have n0_ := Aside0.mk (below_step (by repeat (first | (with_reducible first | exact HB.out | apply below_alloc | apply pw_below_drewN | apply below_drew1) | exact HB.out)) hb)
        clear HB
        have HB := n0_
        clear n0_
        (try clear hb)
        (try clear hb2)
        (try clear hk)
        (try clear hi)
        refine hK.out _ _ ⟨((HB.out.cell (World.block_lt_of_cell? w _ hw433_0)).trans hw433_0), ((HB.out.cell (World.block_lt_of_cell? w _ hw433_1)).trans hw433_1), ((HB.out.cell (World.block_lt_of_cell? w _ hw433_2)).trans hw433_2), ((HB.out.cell (World.block_lt_of_cell? w _ hw433_3)).trans hw433_3), ((HB.out.cell (World.block_lt_of_cell? w _ hw433_4)).trans hw433_4), ((HB.out.cell (World.block_lt_of_cell? w _ hw433_5)).trans hw433_5)⟩ (fun hHeld => ?_)
        clear hK K
        refine norm_ (a' := ?_) ?_ ?_
        rotate_left
        · show Act.put _ (some 12) _ = _
          simp only [Act.put, List.setIfInBounds_toArray, List.set_cons_zero, List.set_cons_succ, i64_w, i32_w]
          rfl
        refine pure_ (i := 6) (N := some 13) (v := ?_) (a' := ?_) (dn_ 7 9) rfl rfl (any_of HT_.out (by kernel_rfl)) (fun _ _ _ h => h) (Or.inl ⟨by rfl, ?_⟩) ?_ ?_
        rotate_left
        · intro w'
          go_simp
          first | with_reducible rfl | (unfold Instr.field; simp only [go_sem, run_underlying Try.underlying39]; go_simp; rfl)
        rotate_left
        · simp only [Act.put, List.setIfInBounds_toArray, List.set_cons_zero, List.set_cons_succ, i64_w, i32_w]
          rfl
        refine pure_ (i := 7) (N := some 2) (v := ?_) (a' := ?_) (dn_ 8 9) rfl rfl (any_of HT_.out (by kernel_rfl)) (fun _ _ _ h => h) (Or.inl ⟨by rfl, ?_⟩) ?_ ?_
        rotate_left
        · intro w'
          go_simp
          first | with_reducible rfl | (unfold Instr.field; simp only [go_sem, run_underlying Try.underlying39]; go_simp; rfl)
        rotate_left
        · simp only [Act.put, List.setIfInBounds_toArray, List.set_cons_zero, List.set_cons_succ, i64_w, i32_w]
          rfl
        refine pure_ (i := 8) (N := some 3) (v := ?_) (a' := ?_) #[true, true, true, true, true, true, true, true, true] rfl rfl (any_of HT_.out (by kernel_rfl)) (fun _ _ _ h => h) (Or.inl ⟨by rfl, ?_⟩) ?_ ?_
        rotate_left
        · intro w'
          go_simp
          first | with_reducible rfl | (unfold Instr.field; simp only [go_sem, run_underlying Try.underlying39]; go_simp; rfl)
        rotate_left
        · simp only [Act.put, List.setIfInBounds_toArray, List.set_cons_zero, List.set_cons_succ, i64_w, i32_w]
          rfl
        refine done_ (done_of HT_.out (by kernel_rfl)) ?_
        try go_wp2
        go_ret2
        exact ⟨by first | rfl | (simp [errW_none, errW_some] <;> rfl) | (simp [*, errW_none, errW_some] <;> rfl), by repeat (first | (with_reducible first | exact HB.out | apply below_alloc | apply pw_below_drewN | apply below_drew1) | exact HB.out)⟩
      · rw [if_neg c4] at H
        exact absurd H (by simp)
    · rw [if_neg c3] at H
      exact absurd H (by simp)

end Go.Proofs.Ytkhdpmbjjcmooaa.F
