-- Written by a program of this session (xprint.py), out of the translation and of contracts proved by hand.
import Derived.Test.YtcfpbmdndapeaaaF0
import Derived.Test.YtcfpbmdndapeaaaF3
import Derived.Test.YtcfpbmdndapeaaaF4
namespace Go.Proofs.Ytcfpbmdndapeaaa.F
open Go.RowKit Go.Proofs.YtcfpbmdndapeaaaV.PrintWords Go.Proofs.YtcfpbmdndapeaaaV.PrintLast Go.Proofs.YtcfpbmdndapeaaaV.PrintMore
attribute [local go_sem] max2_int min2_int max_two min_two max_three min_three max_four min_four   -- for this text's walks alone
set_option linter.unusedVariables false
set_option linter.unusedSimpArgs false

/-! ### board_Is: function 32 -/
def board_Is.f (k : Nat) (a0_0 : Int) (a0_1 : Int) (l0_2 : List (S28)) : Option (Bool) := if a0_0 ≥ 1 then (if a0_0 ≤ 200 then (if a0_1 ≥ 0 then (if a0_1 ≤ 1000000000 then (if (l0_2.length : Int) ≤ a0_0 then ((board_open.f a0_0 a0_1 l0_2).bind fun bt119 => ((board_alarms_rise.f k bt119.1 a0_1).bind fun t127 => (some t127))) else (some false)) else (some false)) else (some false)) else (some false)) else (some false)
theorem board_Is.mono : ∀ a0 a1 a2 k, LeO (board_Is.f k a0 a1 a2) (board_Is.f (k + 1) a0 a1 a2) := by
 intro a0 a1 a2 k
 unfold board_Is.f
 repeat' first
   | (with_reducible exact board_alarms_rise.mono _ _ _)
   | (with_reducible exact LeO.refl _)
   | (with_reducible exact LeO.none _)
   | (with_reducible refine LeO.ite ?_ ?_)
   | (with_reducible refine LeO.bind ?_ (fun _ => ?_))
   | exact board_alarms_rise.mono _ _ _
   | exact LeO.none _
   | refine LeO.ite ?_ ?_
   | refine LeO.bind ?_ (fun _ => ?_)
def board_Is.T1 : Bool × List (List Nat × List Nat) := (true, [([], []), ([0], [0]), ([1], [1]), ([2], [2]), ([3], [3]), ([4, 3], [3, 4]), ([5, 3], [3, 5]), ([3, 6], [3, 6]), ([7, 3], [7]), ([8], [8]), ([9, 8], [8, 9]), ([10, 8], [8, 10]), ([8, 11], [8, 11]), ([12, 8], [12]), ([13], [13]), ([14, 13], [13, 14]), ([15, 13], [13, 15]), ([13, 16], [13, 16]), ([17, 13], [17]), ([18], [18]), ([19, 18], [18, 19]), ([20, 18], [18, 20]), ([18], [18]), ([22, 18], [18, 22]), ([21, 23, 18], [18, 21, 23]), ([18, 24], [18, 24]), ([25, 18], [25]), ([26], [26]), ([27, 26, 26], [26, 27]), ([28, 26], [26, 28]), ([26], [26]), ([30, 26], [26, 30]), ([29, 31, 28, 26], [26, 29, 31]), ([26, 32], [26, 32]), ([33, 32, 0, 1, 2, 3, 4, 5, 6, 7, 8, 9, 10, 11, 12, 13, 14, 15, 16, 17, 18, 19, 20, 21, 22, 23, 24, 25, 26, 27, 28, 29, 30, 31, 32, 33], [33])])
def board_Is.B1 : List Nat := [0, 1, 3, 7, 15, 31, 63, 127, 255, 511, 1023, 2047, 4095, 8191, 16383, 32767, 65535, 131071, 262143, 524287, 1048575, 2097151, 524287, 4718591, 16777215, 33554431, 67108863, 134217727, 268435455, 536870911, 134217727, 1207959551, 4294967295, 8589934591, 17179869183]
theorem board_Is.tab1 : rtab .any (opsOf Try.f32 1) = board_Is.T1 := by kernel_rfl
theorem board_Is.bits1 : waitsOk board_Is.T1.2 board_Is.B1 = true := by kernel_rfl
set_option maxHeartbeats 8000000 in
set_option maxRecDepth 100000 in
theorem board_Is.calls (k : Nat) (a0_0 : Int) (a0_1 : Int) (A0_2 : Option Addr) (c0_2 : Nat) (l0_2 : List (S28)) (r : Bool) (w : World) (hr0_2 : Kd.C k28 w A0_2 l0_2.length l0_2) (hc0_2 : l0_2.length ≤ c0_2) (h : board_Is.f k a0_0 a0_1 l0_2 = some r) :
  Calls Try.prog 32 #[.agg #[.int .i64 a0_0, .int .i64 a0_1, .slice A0_2 l0_2.length c0_2]] w fun e w' => e = .returned (.bool r) ∧ Below w.heap.size w w' := by
 have hu24 := Try.underlying24
 have HR0_2 := Aside0.mk hr0_2
 have HC0_2 := Aside0.mk hc0_2
 clear hr0_2 hc0_2
 have HB := Aside0.mk (Below.refl w.heap.size w)
 have H : (if a0_0 ≥ 1 then (if a0_0 ≤ 200 then (if a0_1 ≥ 0 then (if a0_1 ≤ 1000000000 then (if (l0_2.length : Int) ≤ a0_0 then ((board_open.f a0_0 a0_1 l0_2).bind fun bt119 => ((board_alarms_rise.f k bt119.1 a0_1).bind fun t127 => (some t127))) else (some false)) else (some false)) else (some false)) else (some false)) else (some false)) = some r := h
 clear h
 by_cases c2 : a0_0 ≥ 1
 ·rw [if_pos c2] at H
  have c2b0 : decide (1 ≤ a0_0) = true := decide_eq_true c2
  clear c2
  by_cases c3 : a0_0 ≤ 200
  ·rw [if_pos c3] at H
   have c3b0 : decide (a0_0 ≤ 200) = true := decide_eq_true c3
   clear c3
   by_cases c4 : a0_1 ≥ 0
   ·rw [if_pos c4] at H
    have c4b0 : decide (0 ≤ a0_1) = true := decide_eq_true c4
    clear c4
    by_cases c5 : a0_1 ≤ 1000000000
    ·rw [if_pos c5] at H
     have c5b0 : decide (a0_1 ≤ 1000000000) = true := decide_eq_true c5
     clear c5
     by_cases c6 : (l0_2.length : Int) ≤ a0_0
     ·rw [if_pos c6] at H
      have c6b0 : decide ((l0_2.length : Int) ≤ a0_0) = true := decide_eq_true c6
      clear c6
      replace H := Option.bind_eq_some_iff.mp H
      obtain ⟨⟨t119, t122, t123, t124⟩, A70, H⟩ := H
      try dsimp only at H
      have A7 := Aside0.mk A70
      clear A70
      replace H := Option.bind_eq_some_iff.mp H
      obtain ⟨t127, A80, H⟩ := H
      try dsimp only at H
      have A8 := Aside0.mk A80
      clear A80
      obtain rfl := Option.some.inj H
      go_enter Try.func32, Try.ntmps32
      try go_wp2_with (first | ((with_reducible refine gate_dst (N := 1) rfl ?_); (try (refine gate_guard (by rfl) ?_; dsimp only)); refine box_event ?hg (N := 1) ?hd (cs := #[.int .i64 a0_0, .int .i64 a0_1, .slice A0_2 l0_2.length c0_2]) (t := 24) ?hr ?_; (case hd => rfl); (case hg => rfl); (case hr => first | (go_simp; done) | (go_simp; rfl)); intro gb118 hg w9 hbox hb; have BK118 := Aside0.mk (hbox); have GW118 := Aside0.mk ((by rw [hg]; exact (below_size HB.out) : w.heap.size ≤ gb118)); have GE118 := Aside0.mk ((by rw [hg]; exact (below_size HB.out) : w.heap.size ≤ gb118)); replace HB := Aside0.mk (below_step HB.out hb); clear hb hbox hg))
      replace BK118 := Aside0.mk (blk_drew BK118.out)
      replace HB := Aside0.mk (below_drew1 HB.out)
      refine start_ (n := 35) (S := fun w' => w'.cell? ⟨gb118, 0, none⟩ = some (.int .i64 a0_0) ∧ w'.cell? ⟨gb118, 1, none⟩ = some (.int .i64 a0_1) ∧ w'.cell? ⟨gb118, 2, none⟩ = some (.slice A0_2 l0_2.length c0_2)) (ds := []) #[false, false, false, false, false, false, false, false, false, false, false, false, false, false, false, false, false, false, false, false, false, false, false, false, false, false, false, false, false, false, false, false, false, false, false] (by kernel_rfl) rfl rfl ⟨(blk_cell BK118.out 0).trans rfl, (blk_cell BK118.out 1).trans rfl, (blk_cell BK118.out 2).trans rfl⟩ (fun hHeld => ?_); refine with_tabW board_Is.tab1 board_Is.bits1 (fun HT_ HW_ => ?_)
      generalize w9.drew = w10 at BK118 HB hHeld ⊢
      have Q_ := Qs.mk (n := 35) [(0, 0, 3, 1), (2, 1, 4, 3), (0, 2, 5, 7), (0, 3, 6, 15), (0, 4, 7, 31), (2, 5, 8, 63), (0, 6, 9, 127), (0, 7, 10, 255), (0, 8, 11, 511), (0, 9, 12, 1023), (2, 10, 13, 2047), (0, 11, 14, 4095), (0, 12, 15, 8191), (0, 13, 16, 16383), (0, 14, 17, 32767), (2, 15, 18, 65535), (0, 16, 19, 131071), (0, 17, 20, 262143), (0, 18, 21, 524287), (0, 19, 22, 1048575), (0, 22, 25, 5242879), (2, 20, 23, 6291455), (0, 21, 24, 8388607), (2, 23, 26, 16777215), (0, 24, 27, 33554431), (0, 25, 28, 67108863), (0, 26, 29, 134217727), (0, 30, 33, 1207959551), (2, 27, 30, 1342177279), (2, 31, 34, 3489660927)]
      iterate 30 (first | (obtain ⟨q_, Q_⟩ := Qs.p Q_; refine pureQ_ q_ (v := ?_) (a' := ?_) rfl rfl (any_of HT_.out (by kernel_rfl)) (fun _ _ _ h => h) (Or.inl ⟨by rfl, ?_⟩) ?_ ?_; rotate_left; (intro w'; go_simp; (first | with_reducible rfl | (unfold Instr.field; simp only [go_sem, run_underlying Try.underlying72]; go_simp; rfl))); rotate_left; (simp only [Act.put, List.setIfInBounds_toArray, List.set_cons_zero, List.set_cons_succ, i64_w, i32_w]; rfl)) | (obtain ⟨q_, Q_⟩ := Qs.t Q_; refine takeQ_ q_ (v := ?_) (a' := ?_) rfl rfl (take_ofW HT_.out HW_.out (by kernel_rfl)) (fun _ _ _ h => h) (Or.inl ⟨by rfl, ?_⟩) hHeld ?_ ?_; rotate_left; (rintro w' ⟨s0, s1, s2⟩; go_simp; (first | with_reducible rfl | (unfold Instr.field; simp only [go_sem, run_underlying Try.underlying72]; go_simp; rfl))); rotate_left; (simp only [Act.put, List.setIfInBounds_toArray, List.set_cons_zero, List.set_cons_succ, i64_w, i32_w]; rfl)))
      clear Q_
      refine one_ (i := 28) (N := some 31) #[true, true, true, true, true, true, true, true, true, true, true, true, true, true, true, true, true, true, true, true, true, true, true, true, true, true, true, true, true, false, true, true, false, false, false] rfl rfl (one_of HT_.out (by kernel_rfl)) (by decide) (fun K hK => ?_)
      refine goes_ Try.func51 (by kernel_rfl) rfl #[.agg #[.int .i64 a0_0, .int .i64 a0_1, .slice A0_2 l0_2.length c0_2]] (by rfl) rfl rfl (by (try simp only [List.map_toArray, List.map_cons, List.map_nil]); first | done | rfl | (simp only [List.length_drop, List.length_take]; rfl)) ?_
      with_reducible refine (board_open.calls a0_0 a0_1 (fun k_ => k_ < w.heap.size) _ _ l0_2 t119 t122 t123 t124 _ ?side1 A7.out).mono ?_
      (case side1 => exact Kd.V_mk HC0_2.out (Kd.F_below (Kd.C_F k28_heap HR0_2.out) (by repeat (with_reducible first | exact HB.out | apply pw_below_drewN | apply below_drew1 | refine below_set ?_ GE118.out))))
      rintro e w11 ⟨v120, v125, rfl, ho0, ho1, hb⟩
      refine ⟨_, rfl, ?_⟩
      have HO121 := Aside0.mk (Kd.V_lower (Kd.V_mono (ok' := fun k_ => k_ ≠ gb118) ho0 (fun k_ hk_ => Or.elim hk_ (fun hs_ => fun e_ => Nat.not_le.2 hs_ (by rw [e_]; exact GW118.out)) (fun hn_ => (Kd.freshB (g := gb118) (o := .cells #[.int .i64 a0_0, .int .i64 a0_1, .slice A0_2 l0_2.length c0_2] 24 (0, 0)) BK118.out k_ hn_)))) (below_size (by repeat (with_reducible first | exact HB.out | apply pw_below_drewN | apply below_drew1 | refine below_set ?_ GE118.out))))
      have HO126 := Aside0.mk (Kd.V_lower (Kd.V_mono (ok' := fun k_ => k_ ≠ gb118) ho1 (fun k_ hk_ => Or.elim hk_ (fun hs_ => fun e_ => Nat.not_le.2 hs_ (by rw [e_]; exact GW118.out)) (fun hn_ => (Kd.freshB (g := gb118) (o := .cells #[.int .i64 a0_0, .int .i64 a0_1, .slice A0_2 l0_2.length c0_2] 24 (0, 0)) BK118.out k_ hn_)))) (below_size (by repeat (with_reducible first | exact HB.out | apply pw_below_drewN | apply below_drew1 | refine below_set ?_ GE118.out))))
      replace BK118 := bl_ BK118 hb
      replace HB := Aside0.mk (below_step (by repeat (with_reducible first | exact HB.out | apply pw_below_drewN | apply below_drew1 | refine below_set ?_ GE118.out)) hb)
      (try clear hb)
      (try clear hb2)
      (try clear hk)
      (try clear hi)
      (try clear ho0)
      (try clear ho1)
      obtain ⟨Ao12, co12, eo12⟩ := Kd.V_slice HO121.out
      (first | subst eo12 | (injection eo12 with f1_ f2_ f3_; have f4_ := f1_.symm; have f5_ := f3_.symm; clear f1_ f2_ f3_; subst f4_; subst f5_))
      refine hK.out _ _ ⟨(blk_cell BK118.out 0).trans rfl, (blk_cell BK118.out 1).trans rfl, (blk_cell BK118.out 2).trans rfl⟩ (fun hHeld => ?_)
      clear hK K
      refine norm_ (a' := ?_) ?_ ?_
      rotate_left
      ·show Act.put _ (some 31) _ = _
       simp only [Act.put, List.setIfInBounds_toArray, List.set_cons_zero, List.set_cons_succ, i64_w, i32_w]
       rfl
      refine pure_ (i := 29) (N := some 32) (v := ?_) (a' := ?_) (dn_ 32 35) rfl rfl (any_of HT_.out (by kernel_rfl)) (fun _ _ _ h => h) (Or.inl ⟨by rfl, ?_⟩) ?_ ?_
      rotate_left
      ·intro w'
       go_simp
       first | with_reducible rfl | (unfold Instr.field; simp only [go_sem, run_underlying Try.underlying72]; go_simp; rfl)
      rotate_left; (simp only [Act.put, List.setIfInBounds_toArray, List.set_cons_zero, List.set_cons_succ, i64_w, i32_w]; rfl)
      refine one_ (i := 32) (N := some 35) (dn_ 33 35) rfl rfl (one_of HT_.out (by kernel_rfl)) (by decide) (fun K hK => ?_)
      refine goes_ Try.func65 (by kernel_rfl) rfl #[.slice Ao12 t119.length co12, .int .i64 a0_1] (by rfl) rfl rfl (by (try simp only [List.map_toArray, List.map_cons, List.map_nil]); first | done | rfl | (simp only [List.length_drop, List.length_take]; rfl)) ?_
      with_reducible refine (board_alarms_rise.calls k _ _ t119 a0_1 t127 _ ?side1 ?side2 A8.out).mono ?_
      (case side1 => repeat (first | exact (Kd.V_reads' HO121.out).2.2 | (with_reducible refine Kd.C_alloc ?_ _) | (with_reducible refine Kd.C_drewN ?_ _) | (with_reducible refine Kd.C_drew ?_)))
      (case side2 => exact (Kd.V_reads' HO121.out).2.1)
      rintro e w13 ⟨rfl, hb⟩
      refine ⟨_, rfl, ?_⟩
      replace HO121 := Aside0.mk (Kd.V_below (HO121.out) hb)
      replace HO126 := Aside0.mk (Kd.V_below (HO126.out) hb)
      replace BK118 := bl_ BK118 hb
      replace HB := Aside0.mk (below_step (by repeat (with_reducible first | exact HB.out | apply pw_below_drewN | apply below_drew1 | refine below_set ?_ GE118.out)) hb)
      (try clear hb)
      (try clear hb2)
      (try clear hk)
      (try clear hi)
      refine hK.out _ _ ⟨(blk_cell BK118.out 0).trans rfl, (blk_cell BK118.out 1).trans rfl, (blk_cell BK118.out 2).trans rfl⟩ (fun hHeld => ?_)
      clear hK K
      refine norm_ (a' := ?_) ?_ ?_
      rotate_left
      ·show Act.put _ (some 35) _ = _
       simp only [Act.put, List.setIfInBounds_toArray, List.set_cons_zero, List.set_cons_succ, i64_w, i32_w]
       rfl
      refine pure_ (i := 33) (N := some 36) (v := ?_) (a' := ?_) (dn_ 34 35) rfl rfl (any_of HT_.out (by kernel_rfl)) (fun _ _ _ h => h) (Or.inl ⟨by rfl, ?_⟩) ?_ ?_
      rotate_left
      ·intro w'
       go_simp
       first | with_reducible rfl | (unfold Instr.field; simp only [go_sem, run_underlying Try.underlying72]; go_simp; rfl)
      rotate_left; (simp only [Act.put, List.setIfInBounds_toArray, List.set_cons_zero, List.set_cons_succ, i64_w, i32_w]; rfl)
      refine pure_ (i := 34) (N := some 2) (v := ?_) (a' := ?_) #[true, true, true, true, true, true, true, true, true, true, true, true, true, true, true, true, true, true, true, true, true, true, true, true, true, true, true, true, true, true, true, true, true, true, true] rfl rfl (any_of HT_.out (by kernel_rfl)) (fun _ _ _ h => h) (Or.inl ⟨by rfl, ?_⟩) ?_ ?_
      rotate_left
      ·intro w'
       go_simp
       first | with_reducible rfl | (unfold Instr.field; simp only [go_sem, run_underlying Try.underlying72]; go_simp; rfl)
      rotate_left; (simp only [Act.put, List.setIfInBounds_toArray, List.set_cons_zero, List.set_cons_succ, i64_w, i32_w]; rfl)
      refine done_ (done_of HT_.out (by kernel_rfl)) ?_
      try go_wp2
      go_ret
      exact ⟨by first | rfl | (simp [errW_none, errW_some] <;> rfl) | (simp [*, errW_none, errW_some] <;> rfl), by repeat (with_reducible first | exact HB.out | apply pw_below_drewN | apply below_drew1 | refine below_set ?_ GE118.out)⟩
     ·rw [if_neg c6] at H
      have c6b0 : decide ((l0_2.length : Int) ≤ a0_0) = false := decide_eq_false c6
      clear c6
      obtain rfl := Option.some.inj H
      go_enter Try.func32, Try.ntmps32
      try go_wp2_with (first | ((with_reducible refine gate_dst (N := 1) rfl ?_); (try (refine gate_guard (by rfl) ?_; dsimp only)); refine box_event ?hg (N := 1) ?hd (cs := #[.int .i64 a0_0, .int .i64 a0_1, .slice A0_2 l0_2.length c0_2]) (t := 24) ?hr ?_; (case hd => rfl); (case hg => rfl); (case hr => first | (go_simp; done) | (go_simp; rfl)); intro gb118 hg w14 hbox hb; have BK118 := Aside0.mk (hbox); have GW118 := Aside0.mk ((by rw [hg]; exact (below_size HB.out) : w.heap.size ≤ gb118)); have GE118 := Aside0.mk ((by rw [hg]; exact (below_size HB.out) : w.heap.size ≤ gb118)); replace HB := Aside0.mk (below_step HB.out hb); clear hb hbox hg))
      replace BK118 := Aside0.mk (blk_drew BK118.out)
      replace HB := Aside0.mk (below_drew1 HB.out)
      refine start_ (n := 35) (S := fun w' => w'.cell? ⟨gb118, 0, none⟩ = some (.int .i64 a0_0) ∧ w'.cell? ⟨gb118, 1, none⟩ = some (.int .i64 a0_1) ∧ w'.cell? ⟨gb118, 2, none⟩ = some (.slice A0_2 l0_2.length c0_2)) (ds := []) #[false, false, false, false, false, false, false, false, false, false, false, false, false, false, false, false, false, false, false, false, false, false, false, false, false, false, false, false, false, false, false, false, false, false, false] (by kernel_rfl) rfl rfl ⟨(blk_cell BK118.out 0).trans rfl, (blk_cell BK118.out 1).trans rfl, (blk_cell BK118.out 2).trans rfl⟩ (fun hHeld => ?_); refine with_tabW board_Is.tab1 board_Is.bits1 (fun HT_ HW_ => ?_)
      generalize w14.drew = w15 at BK118 HB hHeld ⊢
      have Q_ := Qs.mk (n := 35) [(0, 0, 3, 1), (2, 1, 4, 3), (0, 2, 5, 7), (0, 3, 6, 15), (0, 4, 7, 31), (2, 5, 8, 63), (0, 6, 9, 127), (0, 7, 10, 255), (0, 8, 11, 511), (0, 9, 12, 1023), (2, 10, 13, 2047), (0, 11, 14, 4095), (0, 12, 15, 8191), (0, 13, 16, 16383), (0, 14, 17, 32767), (2, 15, 18, 65535), (0, 16, 19, 131071), (0, 17, 20, 262143), (0, 18, 21, 524287), (0, 19, 22, 1048575), (0, 22, 25, 5242879), (2, 20, 23, 6291455), (0, 21, 24, 8388607), (2, 23, 26, 16777215), (0, 24, 27, 33554431), (0, 25, 28, 67108863), (0, 26, 29, 134217727), (1, 27, 30, 268435455), (1, 28, 31, 536870911), (1, 29, 32, 1073741823), (1, 30, 33, 2147483647), (1, 31, 34, 4294967295), (1, 32, 35, 8589934591), (0, 33, 36, 17179869183), (0, 34, 2, 34359738367)]
      iterate 35 (first | (obtain ⟨q_, Q_⟩ := Qs.p Q_; refine pureQ_ q_ (v := ?_) (a' := ?_) rfl rfl (any_of HT_.out (by kernel_rfl)) (fun _ _ _ h => h) (Or.inl ⟨by rfl, ?_⟩) ?_ ?_; rotate_left; (intro w'; go_simp; (first | with_reducible rfl | (unfold Instr.field; simp only [go_sem, run_underlying Try.underlying72]; go_simp; rfl))); rotate_left; (simp only [Act.put, List.setIfInBounds_toArray, List.set_cons_zero, List.set_cons_succ, i64_w, i32_w]; rfl)) | (obtain ⟨q_, Q_⟩ := Qs.u Q_; refine pureQ_ q_ (v := undef) (a' := ?_) rfl rfl (any_of HT_.out (by kernel_rfl)) (fun _ _ _ h => h) (Or.inr ⟨by rfl, rfl⟩) ?_ ?_; rotate_left; (simp only [Act.put, List.setIfInBounds_toArray, List.set_cons_zero, List.set_cons_succ, i64_w, i32_w]; rfl)) | (obtain ⟨q_, Q_⟩ := Qs.t Q_; refine takeQ_ q_ (v := ?_) (a' := ?_) rfl rfl (take_ofW HT_.out HW_.out (by kernel_rfl)) (fun _ _ _ h => h) (Or.inl ⟨by rfl, ?_⟩) hHeld ?_ ?_; rotate_left; (rintro w' ⟨s0, s1, s2⟩; go_simp; (first | with_reducible rfl | (unfold Instr.field; simp only [go_sem, run_underlying Try.underlying72]; go_simp; rfl))); rotate_left; (simp only [Act.put, List.setIfInBounds_toArray, List.set_cons_zero, List.set_cons_succ, i64_w, i32_w]; rfl)))
      clear Q_
      refine done_ (done_of HT_.out (by kernel_rfl)) ?_
      try go_wp2
      go_ret
      exact ⟨by first | rfl | (simp [errW_none, errW_some] <;> rfl) | (simp [*, errW_none, errW_some] <;> rfl), by repeat (with_reducible first | exact HB.out | apply pw_below_drewN | apply below_drew1 | refine below_set ?_ GE118.out)⟩
    ·rw [if_neg c5] at H
     have c5b0 : decide (a0_1 ≤ 1000000000) = false := decide_eq_false c5
     clear c5
     obtain rfl := Option.some.inj H
     go_enter Try.func32, Try.ntmps32
     try go_wp2_with (first | ((with_reducible refine gate_dst (N := 1) rfl ?_); (try (refine gate_guard (by rfl) ?_; dsimp only)); refine box_event ?hg (N := 1) ?hd (cs := #[.int .i64 a0_0, .int .i64 a0_1, .slice A0_2 l0_2.length c0_2]) (t := 24) ?hr ?_; (case hd => rfl); (case hg => rfl); (case hr => first | (go_simp; done) | (go_simp; rfl)); intro gb118 hg w16 hbox hb; have BK118 := Aside0.mk (hbox); have GW118 := Aside0.mk ((by rw [hg]; exact (below_size HB.out) : w.heap.size ≤ gb118)); have GE118 := Aside0.mk ((by rw [hg]; exact (below_size HB.out) : w.heap.size ≤ gb118)); replace HB := Aside0.mk (below_step HB.out hb); clear hb hbox hg))
     replace BK118 := Aside0.mk (blk_drew BK118.out)
     replace HB := Aside0.mk (below_drew1 HB.out)
     refine start_ (n := 35) (S := fun w' => w'.cell? ⟨gb118, 0, none⟩ = some (.int .i64 a0_0) ∧ w'.cell? ⟨gb118, 1, none⟩ = some (.int .i64 a0_1) ∧ w'.cell? ⟨gb118, 2, none⟩ = some (.slice A0_2 l0_2.length c0_2)) (ds := []) #[false, false, false, false, false, false, false, false, false, false, false, false, false, false, false, false, false, false, false, false, false, false, false, false, false, false, false, false, false, false, false, false, false, false, false] (by kernel_rfl) rfl rfl ⟨(blk_cell BK118.out 0).trans rfl, (blk_cell BK118.out 1).trans rfl, (blk_cell BK118.out 2).trans rfl⟩ (fun hHeld => ?_); refine with_tabW board_Is.tab1 board_Is.bits1 (fun HT_ HW_ => ?_)
     generalize w16.drew = w17 at BK118 HB hHeld ⊢
     have Q_ := Qs.mk (n := 35) [(0, 0, 3, 1), (2, 1, 4, 3), (0, 2, 5, 7), (0, 3, 6, 15), (0, 4, 7, 31), (2, 5, 8, 63), (0, 6, 9, 127), (0, 7, 10, 255), (0, 8, 11, 511), (0, 9, 12, 1023), (2, 10, 13, 2047), (0, 11, 14, 4095), (0, 12, 15, 8191), (0, 13, 16, 16383), (0, 14, 17, 32767), (2, 15, 18, 65535), (0, 16, 19, 131071), (0, 17, 20, 262143), (0, 18, 21, 524287), (1, 19, 22, 1048575), (1, 20, 23, 2097151), (1, 21, 24, 4194303), (1, 22, 25, 8388607), (1, 23, 26, 16777215), (1, 24, 27, 33554431), (0, 25, 28, 67108863), (0, 26, 29, 134217727), (1, 27, 30, 268435455), (1, 28, 31, 536870911), (1, 29, 32, 1073741823), (1, 30, 33, 2147483647), (1, 31, 34, 4294967295), (1, 32, 35, 8589934591), (0, 33, 36, 17179869183), (0, 34, 2, 34359738367)]
     iterate 35 (first | (obtain ⟨q_, Q_⟩ := Qs.p Q_; refine pureQ_ q_ (v := ?_) (a' := ?_) rfl rfl (any_of HT_.out (by kernel_rfl)) (fun _ _ _ h => h) (Or.inl ⟨by rfl, ?_⟩) ?_ ?_; rotate_left; (intro w'; go_simp; (first | with_reducible rfl | (unfold Instr.field; simp only [go_sem, run_underlying Try.underlying72]; go_simp; rfl))); rotate_left; (simp only [Act.put, List.setIfInBounds_toArray, List.set_cons_zero, List.set_cons_succ, i64_w, i32_w]; rfl)) | (obtain ⟨q_, Q_⟩ := Qs.u Q_; refine pureQ_ q_ (v := undef) (a' := ?_) rfl rfl (any_of HT_.out (by kernel_rfl)) (fun _ _ _ h => h) (Or.inr ⟨by rfl, rfl⟩) ?_ ?_; rotate_left; (simp only [Act.put, List.setIfInBounds_toArray, List.set_cons_zero, List.set_cons_succ, i64_w, i32_w]; rfl)) | (obtain ⟨q_, Q_⟩ := Qs.t Q_; refine takeQ_ q_ (v := ?_) (a' := ?_) rfl rfl (take_ofW HT_.out HW_.out (by kernel_rfl)) (fun _ _ _ h => h) (Or.inl ⟨by rfl, ?_⟩) hHeld ?_ ?_; rotate_left; (rintro w' ⟨s0, s1, s2⟩; go_simp; (first | with_reducible rfl | (unfold Instr.field; simp only [go_sem, run_underlying Try.underlying72]; go_simp; rfl))); rotate_left; (simp only [Act.put, List.setIfInBounds_toArray, List.set_cons_zero, List.set_cons_succ, i64_w, i32_w]; rfl)))
     clear Q_
     refine done_ (done_of HT_.out (by kernel_rfl)) ?_
     try go_wp2
     go_ret
     exact ⟨by first | rfl | (simp [errW_none, errW_some] <;> rfl) | (simp [*, errW_none, errW_some] <;> rfl), by repeat (with_reducible first | exact HB.out | apply pw_below_drewN | apply below_drew1 | refine below_set ?_ GE118.out)⟩
   ·rw [if_neg c4] at H
    have c4b0 : decide (0 ≤ a0_1) = false := decide_eq_false c4
    clear c4
    obtain rfl := Option.some.inj H
    go_enter Try.func32, Try.ntmps32
    try go_wp2_with (first | ((with_reducible refine gate_dst (N := 1) rfl ?_); (try (refine gate_guard (by rfl) ?_; dsimp only)); refine box_event ?hg (N := 1) ?hd (cs := #[.int .i64 a0_0, .int .i64 a0_1, .slice A0_2 l0_2.length c0_2]) (t := 24) ?hr ?_; (case hd => rfl); (case hg => rfl); (case hr => first | (go_simp; done) | (go_simp; rfl)); intro gb118 hg w18 hbox hb; have BK118 := Aside0.mk (hbox); have GW118 := Aside0.mk ((by rw [hg]; exact (below_size HB.out) : w.heap.size ≤ gb118)); have GE118 := Aside0.mk ((by rw [hg]; exact (below_size HB.out) : w.heap.size ≤ gb118)); replace HB := Aside0.mk (below_step HB.out hb); clear hb hbox hg))
    replace BK118 := Aside0.mk (blk_drew BK118.out)
    replace HB := Aside0.mk (below_drew1 HB.out)
    refine start_ (n := 35) (S := fun w' => w'.cell? ⟨gb118, 0, none⟩ = some (.int .i64 a0_0) ∧ w'.cell? ⟨gb118, 1, none⟩ = some (.int .i64 a0_1) ∧ w'.cell? ⟨gb118, 2, none⟩ = some (.slice A0_2 l0_2.length c0_2)) (ds := []) #[false, false, false, false, false, false, false, false, false, false, false, false, false, false, false, false, false, false, false, false, false, false, false, false, false, false, false, false, false, false, false, false, false, false, false] (by kernel_rfl) rfl rfl ⟨(blk_cell BK118.out 0).trans rfl, (blk_cell BK118.out 1).trans rfl, (blk_cell BK118.out 2).trans rfl⟩ (fun hHeld => ?_); refine with_tabW board_Is.tab1 board_Is.bits1 (fun HT_ HW_ => ?_)
    generalize w18.drew = w19 at BK118 HB hHeld ⊢
    have Q_ := Qs.mk (n := 35) [(0, 0, 3, 1), (2, 1, 4, 3), (0, 2, 5, 7), (0, 3, 6, 15), (0, 4, 7, 31), (2, 5, 8, 63), (0, 6, 9, 127), (0, 7, 10, 255), (0, 8, 11, 511), (0, 9, 12, 1023), (2, 10, 13, 2047), (0, 11, 14, 4095), (0, 12, 15, 8191), (0, 13, 16, 16383), (1, 14, 17, 32767), (1, 15, 18, 65535), (1, 16, 19, 131071), (0, 17, 20, 262143), (0, 18, 21, 524287), (1, 19, 22, 1048575), (1, 20, 23, 2097151), (1, 21, 24, 4194303), (1, 22, 25, 8388607), (1, 23, 26, 16777215), (1, 24, 27, 33554431), (0, 25, 28, 67108863), (0, 26, 29, 134217727), (1, 27, 30, 268435455), (1, 28, 31, 536870911), (1, 29, 32, 1073741823), (1, 30, 33, 2147483647), (1, 31, 34, 4294967295), (1, 32, 35, 8589934591), (0, 33, 36, 17179869183), (0, 34, 2, 34359738367)]
    iterate 35 (first | (obtain ⟨q_, Q_⟩ := Qs.p Q_; refine pureQ_ q_ (v := ?_) (a' := ?_) rfl rfl (any_of HT_.out (by kernel_rfl)) (fun _ _ _ h => h) (Or.inl ⟨by rfl, ?_⟩) ?_ ?_; rotate_left; (intro w'; go_simp; (first | with_reducible rfl | (unfold Instr.field; simp only [go_sem, run_underlying Try.underlying72]; go_simp; rfl))); rotate_left; (simp only [Act.put, List.setIfInBounds_toArray, List.set_cons_zero, List.set_cons_succ, i64_w, i32_w]; rfl)) | (obtain ⟨q_, Q_⟩ := Qs.u Q_; refine pureQ_ q_ (v := undef) (a' := ?_) rfl rfl (any_of HT_.out (by kernel_rfl)) (fun _ _ _ h => h) (Or.inr ⟨by rfl, rfl⟩) ?_ ?_; rotate_left; (simp only [Act.put, List.setIfInBounds_toArray, List.set_cons_zero, List.set_cons_succ, i64_w, i32_w]; rfl)) | (obtain ⟨q_, Q_⟩ := Qs.t Q_; refine takeQ_ q_ (v := ?_) (a' := ?_) rfl rfl (take_ofW HT_.out HW_.out (by kernel_rfl)) (fun _ _ _ h => h) (Or.inl ⟨by rfl, ?_⟩) hHeld ?_ ?_; rotate_left; (rintro w' ⟨s0, s1, s2⟩; go_simp; (first | with_reducible rfl | (unfold Instr.field; simp only [go_sem, run_underlying Try.underlying72]; go_simp; rfl))); rotate_left; (simp only [Act.put, List.setIfInBounds_toArray, List.set_cons_zero, List.set_cons_succ, i64_w, i32_w]; rfl)))
    clear Q_
    refine done_ (done_of HT_.out (by kernel_rfl)) ?_
    try go_wp2
    go_ret
    exact ⟨by first | rfl | (simp [errW_none, errW_some] <;> rfl) | (simp [*, errW_none, errW_some] <;> rfl), by repeat (with_reducible first | exact HB.out | apply pw_below_drewN | apply below_drew1 | refine below_set ?_ GE118.out)⟩
  ·rw [if_neg c3] at H
   have c3b0 : decide (a0_0 ≤ 200) = false := decide_eq_false c3
   clear c3
   obtain rfl := Option.some.inj H
   go_enter Try.func32, Try.ntmps32
   try go_wp2_with (first | ((with_reducible refine gate_dst (N := 1) rfl ?_); (try (refine gate_guard (by rfl) ?_; dsimp only)); refine box_event ?hg (N := 1) ?hd (cs := #[.int .i64 a0_0, .int .i64 a0_1, .slice A0_2 l0_2.length c0_2]) (t := 24) ?hr ?_; (case hd => rfl); (case hg => rfl); (case hr => first | (go_simp; done) | (go_simp; rfl)); intro gb118 hg w20 hbox hb; have BK118 := Aside0.mk (hbox); have GW118 := Aside0.mk ((by rw [hg]; exact (below_size HB.out) : w.heap.size ≤ gb118)); have GE118 := Aside0.mk ((by rw [hg]; exact (below_size HB.out) : w.heap.size ≤ gb118)); replace HB := Aside0.mk (below_step HB.out hb); clear hb hbox hg))
   replace BK118 := Aside0.mk (blk_drew BK118.out)
   replace HB := Aside0.mk (below_drew1 HB.out)
   refine start_ (n := 35) (S := fun w' => w'.cell? ⟨gb118, 0, none⟩ = some (.int .i64 a0_0) ∧ w'.cell? ⟨gb118, 1, none⟩ = some (.int .i64 a0_1) ∧ w'.cell? ⟨gb118, 2, none⟩ = some (.slice A0_2 l0_2.length c0_2)) (ds := []) #[false, false, false, false, false, false, false, false, false, false, false, false, false, false, false, false, false, false, false, false, false, false, false, false, false, false, false, false, false, false, false, false, false, false, false] (by kernel_rfl) rfl rfl ⟨(blk_cell BK118.out 0).trans rfl, (blk_cell BK118.out 1).trans rfl, (blk_cell BK118.out 2).trans rfl⟩ (fun hHeld => ?_); refine with_tabW board_Is.tab1 board_Is.bits1 (fun HT_ HW_ => ?_)
   generalize w20.drew = w21 at BK118 HB hHeld ⊢
   have Q_ := Qs.mk (n := 35) [(0, 0, 3, 1), (2, 1, 4, 3), (0, 2, 5, 7), (0, 3, 6, 15), (0, 4, 7, 31), (2, 5, 8, 63), (0, 6, 9, 127), (0, 7, 10, 255), (0, 8, 11, 511), (1, 9, 12, 1023), (1, 10, 13, 2047), (1, 11, 14, 4095), (0, 12, 15, 8191), (0, 13, 16, 16383), (1, 14, 17, 32767), (1, 15, 18, 65535), (1, 16, 19, 131071), (0, 17, 20, 262143), (0, 18, 21, 524287), (1, 19, 22, 1048575), (1, 20, 23, 2097151), (1, 21, 24, 4194303), (1, 22, 25, 8388607), (1, 23, 26, 16777215), (1, 24, 27, 33554431), (0, 25, 28, 67108863), (0, 26, 29, 134217727), (1, 27, 30, 268435455), (1, 28, 31, 536870911), (1, 29, 32, 1073741823), (1, 30, 33, 2147483647), (1, 31, 34, 4294967295), (1, 32, 35, 8589934591), (0, 33, 36, 17179869183), (0, 34, 2, 34359738367)]
   iterate 35 (first | (obtain ⟨q_, Q_⟩ := Qs.p Q_; refine pureQ_ q_ (v := ?_) (a' := ?_) rfl rfl (any_of HT_.out (by kernel_rfl)) (fun _ _ _ h => h) (Or.inl ⟨by rfl, ?_⟩) ?_ ?_; rotate_left; (intro w'; go_simp; (first | with_reducible rfl | (unfold Instr.field; simp only [go_sem, run_underlying Try.underlying72]; go_simp; rfl))); rotate_left; (simp only [Act.put, List.setIfInBounds_toArray, List.set_cons_zero, List.set_cons_succ, i64_w, i32_w]; rfl)) | (obtain ⟨q_, Q_⟩ := Qs.u Q_; refine pureQ_ q_ (v := undef) (a' := ?_) rfl rfl (any_of HT_.out (by kernel_rfl)) (fun _ _ _ h => h) (Or.inr ⟨by rfl, rfl⟩) ?_ ?_; rotate_left; (simp only [Act.put, List.setIfInBounds_toArray, List.set_cons_zero, List.set_cons_succ, i64_w, i32_w]; rfl)) | (obtain ⟨q_, Q_⟩ := Qs.t Q_; refine takeQ_ q_ (v := ?_) (a' := ?_) rfl rfl (take_ofW HT_.out HW_.out (by kernel_rfl)) (fun _ _ _ h => h) (Or.inl ⟨by rfl, ?_⟩) hHeld ?_ ?_; rotate_left; (rintro w' ⟨s0, s1, s2⟩; go_simp; (first | with_reducible rfl | (unfold Instr.field; simp only [go_sem, run_underlying Try.underlying72]; go_simp; rfl))); rotate_left; (simp only [Act.put, List.setIfInBounds_toArray, List.set_cons_zero, List.set_cons_succ, i64_w, i32_w]; rfl)))
   clear Q_
   refine done_ (done_of HT_.out (by kernel_rfl)) ?_
   try go_wp2
   go_ret
   exact ⟨by first | rfl | (simp [errW_none, errW_some] <;> rfl) | (simp [*, errW_none, errW_some] <;> rfl), by repeat (with_reducible first | exact HB.out | apply pw_below_drewN | apply below_drew1 | refine below_set ?_ GE118.out)⟩
 ·rw [if_neg c2] at H
  have c2b0 : decide (1 ≤ a0_0) = false := decide_eq_false c2
  clear c2
  obtain rfl := Option.some.inj H
  go_enter Try.func32, Try.ntmps32
  try go_wp2_with (first | ((with_reducible refine gate_dst (N := 1) rfl ?_); (try (refine gate_guard (by rfl) ?_; dsimp only)); refine box_event ?hg (N := 1) ?hd (cs := #[.int .i64 a0_0, .int .i64 a0_1, .slice A0_2 l0_2.length c0_2]) (t := 24) ?hr ?_; (case hd => rfl); (case hg => rfl); (case hr => first | (go_simp; done) | (go_simp; rfl)); intro gb118 hg w22 hbox hb; have BK118 := Aside0.mk (hbox); have GW118 := Aside0.mk ((by rw [hg]; exact (below_size HB.out) : w.heap.size ≤ gb118)); have GE118 := Aside0.mk ((by rw [hg]; exact (below_size HB.out) : w.heap.size ≤ gb118)); replace HB := Aside0.mk (below_step HB.out hb); clear hb hbox hg))
  replace BK118 := Aside0.mk (blk_drew BK118.out)
  replace HB := Aside0.mk (below_drew1 HB.out)
  refine start_ (n := 35) (S := fun w' => w'.cell? ⟨gb118, 0, none⟩ = some (.int .i64 a0_0) ∧ w'.cell? ⟨gb118, 1, none⟩ = some (.int .i64 a0_1) ∧ w'.cell? ⟨gb118, 2, none⟩ = some (.slice A0_2 l0_2.length c0_2)) (ds := []) #[false, false, false, false, false, false, false, false, false, false, false, false, false, false, false, false, false, false, false, false, false, false, false, false, false, false, false, false, false, false, false, false, false, false, false] (by kernel_rfl) rfl rfl ⟨(blk_cell BK118.out 0).trans rfl, (blk_cell BK118.out 1).trans rfl, (blk_cell BK118.out 2).trans rfl⟩ (fun hHeld => ?_); refine with_tabW board_Is.tab1 board_Is.bits1 (fun HT_ HW_ => ?_)
  generalize w22.drew = w23 at BK118 HB hHeld ⊢
  have Q_ := Qs.mk (n := 35) [(0, 0, 3, 1), (2, 1, 4, 3), (0, 2, 5, 7), (0, 3, 6, 15), (1, 4, 7, 31), (1, 5, 8, 63), (1, 6, 9, 127), (0, 7, 10, 255), (0, 8, 11, 511), (1, 9, 12, 1023), (1, 10, 13, 2047), (1, 11, 14, 4095), (0, 12, 15, 8191), (0, 13, 16, 16383), (1, 14, 17, 32767), (1, 15, 18, 65535), (1, 16, 19, 131071), (0, 17, 20, 262143), (0, 18, 21, 524287), (1, 19, 22, 1048575), (1, 20, 23, 2097151), (1, 21, 24, 4194303), (1, 22, 25, 8388607), (1, 23, 26, 16777215), (1, 24, 27, 33554431), (0, 25, 28, 67108863), (0, 26, 29, 134217727), (1, 27, 30, 268435455), (1, 28, 31, 536870911), (1, 29, 32, 1073741823), (1, 30, 33, 2147483647), (1, 31, 34, 4294967295), (1, 32, 35, 8589934591), (0, 33, 36, 17179869183), (0, 34, 2, 34359738367)]
  iterate 35 (first | (obtain ⟨q_, Q_⟩ := Qs.p Q_; refine pureQ_ q_ (v := ?_) (a' := ?_) rfl rfl (any_of HT_.out (by kernel_rfl)) (fun _ _ _ h => h) (Or.inl ⟨by rfl, ?_⟩) ?_ ?_; rotate_left; (intro w'; go_simp; (first | with_reducible rfl | (unfold Instr.field; simp only [go_sem, run_underlying Try.underlying72]; go_simp; rfl))); rotate_left; (simp only [Act.put, List.setIfInBounds_toArray, List.set_cons_zero, List.set_cons_succ, i64_w, i32_w]; rfl)) | (obtain ⟨q_, Q_⟩ := Qs.u Q_; refine pureQ_ q_ (v := undef) (a' := ?_) rfl rfl (any_of HT_.out (by kernel_rfl)) (fun _ _ _ h => h) (Or.inr ⟨by rfl, rfl⟩) ?_ ?_; rotate_left; (simp only [Act.put, List.setIfInBounds_toArray, List.set_cons_zero, List.set_cons_succ, i64_w, i32_w]; rfl)) | (obtain ⟨q_, Q_⟩ := Qs.t Q_; refine takeQ_ q_ (v := ?_) (a' := ?_) rfl rfl (take_ofW HT_.out HW_.out (by kernel_rfl)) (fun _ _ _ h => h) (Or.inl ⟨by rfl, ?_⟩) hHeld ?_ ?_; rotate_left; (rintro w' ⟨s0, s1, s2⟩; go_simp; (first | with_reducible rfl | (unfold Instr.field; simp only [go_sem, run_underlying Try.underlying72]; go_simp; rfl))); rotate_left; (simp only [Act.put, List.setIfInBounds_toArray, List.set_cons_zero, List.set_cons_succ, i64_w, i32_w]; rfl)))
  clear Q_
  refine done_ (done_of HT_.out (by kernel_rfl)) ?_
  try go_wp2
  go_ret
  exact ⟨by first | rfl | (simp [errW_none, errW_some] <;> rfl) | (simp [*, errW_none, errW_some] <;> rfl), by repeat (with_reducible first | exact HB.out | apply pw_below_drewN | apply below_drew1 | refine below_set ?_ GE118.out)⟩

/-! ### api_Turn_78: function 78 -/
/-- What an iterator over a row wants kept in a round: what lay below m, and its own box. -/
structure KpV (m B : Nat) (W W' : World) : Prop where
  bel : Below m W W'
  one : ∀ o, W.heap[B]? = some o → W'.heap[B]? = some o
theorem KpV.t {m B : Nat} {X Y Z : World} (h : KpV m B X Y) (k : KpV m B Y Z) : KpV m B X Z := ⟨h.bel.trans k.bel, fun o ho => k.one o (h.one o ho)⟩
theorem KpV.b {m B : Nat} {w : World} (hm : m ≤ w.heap.size) (hB : B < w.heap.size) (W : World) (l : Nat) (o o' : Obj) (hl : w.heap.size ≤ l) (h : W.heap[l]? = some o) (h1 : o.isCells = false) (h2 : o.isWalk = false) : KpV m B W (W.putObj l o') :=
  ⟨belowK_b hm W l o o' hl h h1 h2, fun x hx => (World.putObj_heap_other (by omega)).trans hx⟩
theorem take_fin {n : Nat} (k : Nat) (hk : k < n) : (List.finRange n).take (k + 1) = (List.finRange n).take k ++ [⟨k, hk⟩] := by
  rw [List.take_add_one, List.getElem?_eq_getElem (by simpa using hk)]; simp
theorem take_fin_lt {n : Nat} (k : Nat) (hk : k < n) : ((List.finRange n).take k).length < n := by
  rw [List.length_take, List.length_finRange]; omega
theorem values_Turn.calls (A : Option Addr) (n c : Nat) (w : World) :
    Calls Try.prog 78 #[.slice A n c] w fun e w' => e = .returned (.func (.func 98) #[] #[.pointer (some ⟨w.heap.size, 0, none⟩)]) ∧ w' = w.alloc (.cells #[.slice A n c] 53) := by
  go_enter Try.func78, Try.ntmps78
  go_wp2
  go_ret
  exact ⟨rfl, rfl⟩
section
attribute [local go_sem] Oper.semAt_some
set_option maxRecDepth 100000 in
set_option maxHeartbeats 2000000 in
/-- The iterator over a row's elements. -/
theorem values1_Turn.stops (n : Nat) (hn : 1 ≤ n) (A : Option Addr) (c : Nat) (l : List S65) (w0 w : World) (B : Nat) (hr : Kd.C k65 w0 A l.length l) (hw : Below w0.heap.size w0 w)
    (hB : w.heap[B]? = some (.cells #[.slice A l.length c] 53 (0, 0))) :
    SeqStopsK Fence.wide n Try.prog 98 #[.pointer (some ⟨B, 0, none⟩)] (fun i : Fin l.length => #[Value.agg #[.int .i64 (rd_T65 l (i.1 : Int)).f0, .int .i64 (rd_T65 l (i.1 : Int)).f1.f0, .int .i64 (rd_T65 l (i.1 : Int)).f1.f1, .int .i64 (rd_T65 l (i.1 : Int)).f2]]) (KpV w0.heap.size B) (fun xs => xs = List.finRange l.length) (fun _ => True) l.length w := fun y J Jx W hW hJ hJx hY h0 => by
  have hu2 := Try.underlying65
  have hbig := hr.2.1
  have HR := Aside0.mk hr
  have HJ := Aside0.mk hJ
  have HY := Aside0.mk hY
  have h0' : J ((List.finRange l.length).take 0) W := by rw [List.take_zero]; exact h0
  have BKB := Aside0.mk (blk_below hB hW)
  have HB := Aside0.mk (hw.trans (hW.mono hw.size) : Below w0.heap.size w0 W)
  clear hr hJ hY h0 hB hw hW
  have hcB : W.cell? ⟨B, 0, none⟩ = some (.slice A l.length c) := (blk_cell BKB.out 0).trans rfl
  refine callsIn_of_wp Try.func98 rfl trivial ?_ rfl
  simp only [Try.ntmps98, List.size_toArray, List.length_cons, List.length_nil, Nat.reduceAdd, Nat.reduceSub, Array.replicate_succ, Array.replicate_zero, List.push_toArray, List.append_toArray, List.nil_append, List.cons_append]
  gi_wp2
  gi_loopw [7] (fun i wr => ∃ k : Nat, k ≤ l.length ∧ i = .int .i64 k ∧ Aside0 (J ((List.finRange l.length).take k) wr) ∧ Aside0 (Below w0.heap.size w0 wr) ∧ Aside0 (W.heap.size ≤ wr.heap.size) ∧ Aside0 (wr.heap[B]? = some (.cells #[.slice A l.length c] 53 (0, 0)))) (fun i _ => l.length - (intOf i).toNat)
  case atStart => exact ⟨0, Nat.zero_le _, rfl, ⟨h0'⟩, HB, ⟨Nat.le_refl _⟩, BKB⟩
  case round =>
    clear hcB HB BKB h0'
    obtain ⟨k, hk, rfl, HJr, HB, HS, BKB⟩ := hrel
    by_cases hlt : k < l.length
    · have hltz : (k : Int) < (l.length : Int) := by omega
      obtain ⟨ad, e0, hx0, hx1, hx2, hx3⟩ := at_T65 (Kd.C_below HR.out HB.out) (k : Int) (by omega) hltz
      cases e0
      simp only [Int.toNat_natCast] at hx0 hx1 hx2 hx3
      have PS := Aside0.mk (take_fin k hlt)
      obtain ⟨x0, h0_⟩ : ∃ z, (rd_T65 l (k : Int)).f0 = z := ⟨_, rfl⟩
      obtain ⟨x1, h1_⟩ : ∃ z, (rd_T65 l (k : Int)).f1.f0 = z := ⟨_, rfl⟩
      obtain ⟨x2, h2_⟩ : ∃ z, (rd_T65 l (k : Int)).f1.f1 = z := ⟨_, rfl⟩
      obtain ⟨x3, h3_⟩ : ∃ z, (rd_T65 l (k : Int)).f2 = z := ⟨_, rfl⟩
      rw [h0_] at hx0
      rw [h1_] at hx1
      rw [h2_] at hx2
      rw [h3_] at hx3
      have hJ2 := HJ.out _ _ (wr.alloc (.cells #[.int .i64 x0, .int .i64 x1, .int .i64 x2, .int .i64 x3] 65)) none HJr.out (World.grownBy_alloc wr _ none) (fun r e => by cases e)
      have hbl := below_alloc (Below.refl _ wr) (.cells #[.int .i64 x0, .int .i64 x1, .int .i64 x2, .int .i64 x3] 65)
      obtain ⟨fn, tmps, assign, body, hy, hR⟩ := HY.out _ ⟨k, hlt⟩ _ hJ2 (take_fin_lt _ hlt)
      dsimp only at hy
      rw [h0_, h1_, h2_, h3_] at hy
      have HR2 := Aside0.mk hR
      have HB2 := Aside0.mk (below_then HB.out HB.out.size hbl)
      have BB2 := Aside0.mk (blk_below BKB.out hbl)
      have HS2 := Aside0.mk (Nat.le_trans HS.out hbl.size)
      clear hJ2 hbl hR h0_ h1_ h2_ h3_
      gi_wp2
      refine HR2.out.mono ?_
      rintro e W3 (⟨rfl, hJ3, hk3⟩ | ⟨rfl, hJx3⟩)
      · have N1 := Aside0.mk hJ3
        have N2 := Aside0.mk (HB2.out.trans hk3.bel)
        have N3 := Aside0.mk (hk3.one _ BB2.out)
        have N5 := Aside0.mk (Nat.le_trans HS2.out hk3.bel.size)
        clear hJ3 hk3
        gi_wp2
        go_roundw
        case rel => exact ⟨k + 1, by omega, by go_num, ⟨by rw [PS.out]; exact N1.out⟩, N2, N5, N3⟩
        case measure => simp [intOf]; omega
      · gi_wp2
        refine bodyPost_ret (results_none rfl _ _ _) rfl ?_
        exact ⟨⟨_, rfl⟩, .inr ⟨_, trivial, hJx3⟩⟩
    · gi_wp2
      go_end0
      obtain rfl : k = l.length := by omega
      exact ⟨⟨_, rfl⟩, .inl ⟨_, by rw [List.take_of_length_le (by rw [List.length_finRange]; exact Nat.le_refl _)], HJr.out⟩⟩
end

/-! ### due_waiting: function 69 -/
def wtP (x : S28) : Bool := x.f1 == 1 || x.f1 == 4
/-- The places of the alarms that wait. -/
def wplaces (l : List S28) (k : Nat) : List (Fin l.length) := ((List.finRange l.length).take k).filter (fun i => wtP l[i])
theorem wplaces_zero (l : List S28) : wplaces l 0 = [] := rfl
theorem wplaces_succ (l : List S28) (k : Nat) (hk : k < l.length) : wplaces l (k + 1) = wplaces l k ++ (if wtP l[k] = true then [⟨k, hk⟩] else []) := by
  unfold wplaces
  rw [List.take_add_one, List.filter_append]
  congr 1
  rw [List.getElem?_eq_getElem (by simpa using hk)]
  simp [List.filter_cons]
theorem wplaces_lt (l : List S28) (k : Nat) (hk : k < l.length) : (wplaces l k).length < l.length := by
  unfold wplaces
  refine Nat.lt_of_le_of_lt (List.length_filter_le _ _) ?_
  rw [List.length_take, List.length_finRange]; omega
theorem wplaces_all (l : List S28) : (wplaces l l.length).map (fun i => l[i]) = l.filter wtP := by
  have key : ∀ k, k ≤ l.length → (wplaces l k).map (fun i => l[i]) = (l.take k).filter wtP := by
    intro k
    induction k with
    | zero => intro _; rw [wplaces_zero]; rfl
    | succ k ih =>
      intro hk
      rw [wplaces_succ l k (by omega), List.map_append, ih (by omega), List.take_succ_eq_append_getElem (by omega), List.filter_append]
      congr 1
      by_cases h : wtP l[k] = true
      · rw [if_pos h]; simp [List.filter_cons, h]
      · rw [if_neg h]; simp [List.filter_cons, h]
  rw [key _ (Nat.le_refl _), List.take_length]
theorem ringing_waits.calls (x0 x1 x2 x3 x4 x5 : Int) (w : World) :
    Calls Try.prog 125 #[.agg #[.int .i64 x0, .int .i64 x1, .int .i64 x2, .int .i64 x3, .int .i64 x4, .int .i64 x5]] w fun e w' => e = .returned (.bool (x2 == 1 || x2 == 4)) ∧ w' = w.alloc (.cells #[.int .i64 x0, .int .i64 x1, .int .i64 x2, .int .i64 x3, .int .i64 x4, .int .i64 x5] 110) := by
  have hu := Try.underlying110
  by_cases h1 : x2 = 1
  · subst h1
    go_enter Try.func125, Try.ntmps125
    go_wp2
    go_ret
    exact ⟨rfl, rfl⟩
  · have h1b : (x2 == 1) = false := beq_eq_false_iff_ne.2 h1
    have h1d : decide (x2 = 1) = false := decide_eq_false h1
    go_enter Try.func125, Try.ntmps125
    go_wp2
    go_ret
    exact ⟨by simp [h1b], rfl⟩
theorem waits_method (x : Value) (W : World) : (method 250 110 x "watchman/due.waits").run Try.prog W = .ok (125, x) W := by kernel_rfl
theorem due_waiting.calls (A : Option Addr) (n c : Nat) (w : World) :
    Calls Try.prog 69 #[.slice A n c] w fun e w' => e = .returned (.func (.func 91) #[] #[.pointer (some ⟨w.heap.size, 0, none⟩)]) ∧ w' = w.alloc (.cells #[.slice A n c] 22) := by
  go_enter Try.func69, Try.ntmps69
  go_wp2
  go_ret
  exact ⟨rfl, rfl⟩
section
attribute [local go_sem] Oper.semAt_some
set_option maxRecDepth 100000 in
set_option maxHeartbeats 4000000 in
/-- The iterator over the alarms that wait. -/
theorem waiting1.stops (n : Nat) (hn : 1 ≤ n) (A : Option Addr) (c : Nat) (l : List S28) (w0 w : World) (B : Nat) (hr : Kd.C k28 w0 A l.length l) (hw : Below w0.heap.size w0 w)
    (hB : w.heap[B]? = some (.cells #[.slice A l.length c] 22 (0, 0))) :
    SeqStopsK Fence.wide n Try.prog 91 #[.pointer (some ⟨B, 0, none⟩)] (fun i : Fin l.length => #[Value.agg #[.int .i64 (rd_T28 l (i.1 : Int)).f0.f0, .int .i64 (rd_T28 l (i.1 : Int)).f0.f1, .int .i64 (rd_T28 l (i.1 : Int)).f1, .int .i64 (rd_T28 l (i.1 : Int)).f2, .int .i64 (rd_T28 l (i.1 : Int)).f3, .int .i64 (rd_T28 l (i.1 : Int)).f4]]) (KpV w0.heap.size B) (fun xs => xs = wplaces l l.length) (fun _ => True) l.length w := fun y J Jx W hW hJ hJx hY h0 => by
  have hu := Try.underlying110
  have hu2 := Try.underlying28
  have hbig := hr.2.1
  have HR := Aside0.mk hr
  have HJ := Aside0.mk hJ
  have HY := Aside0.mk hY
  have h0' : J (wplaces l 0) W := h0
  have BKB := Aside0.mk (blk_below hB hW)
  have HB := Aside0.mk (hw.trans (hW.mono hw.size) : Below w0.heap.size w0 W)
  clear hr hJ hY h0 hB hw hW
  have hcB : W.cell? ⟨B, 0, none⟩ = some (.slice A l.length c) := (blk_cell BKB.out 0).trans rfl
  refine callsIn_of_wp Try.func91 rfl trivial ?_ rfl
  simp only [Try.ntmps91, List.size_toArray, List.length_cons, List.length_nil, Nat.reduceAdd, Nat.reduceSub, Array.replicate_succ, Array.replicate_zero, List.push_toArray, List.append_toArray, List.nil_append, List.cons_append]
  gi_wp2
  gi_loopw [8] (fun i wr => ∃ k : Nat, k ≤ l.length ∧ i = .int .i64 k ∧ Aside0 (J (wplaces l k) wr) ∧ Aside0 (Below w0.heap.size w0 wr) ∧ Aside0 (W.heap.size ≤ wr.heap.size) ∧ Aside0 (wr.heap[B]? = some (.cells #[.slice A l.length c] 22 (0, 0)))) (fun i _ => l.length - (intOf i).toNat)
  case atStart => exact ⟨0, Nat.zero_le _, rfl, ⟨h0'⟩, HB, ⟨Nat.le_refl _⟩, BKB⟩
  case round =>
    clear hcB HB BKB h0'
    obtain ⟨k, hk, rfl, HJr, HB, HS, BKB⟩ := hrel
    by_cases hlt : k < l.length
    · have hltz : (k : Int) < (l.length : Int) := by omega
      obtain ⟨ad, e0, hx0, hx1, hx2, hx3, hx4, hx5⟩ := at_T28 (Kd.C_below HR.out HB.out) (k : Int) (by omega) hltz
      cases e0
      simp only [Int.toNat_natCast] at hx0 hx1 hx2 hx3 hx4 hx5
      have hrd : rd_T28 l (k : Int) = l[k] := by simp [rd_T28, List.getD_eq_getElem?_getD, List.getElem?_eq_getElem hlt]
      have hps := wplaces_succ l k hlt
      rw [← hrd] at hps
      obtain ⟨y_, hy_⟩ : ∃ y_, rd_T28 l (k : Int) = y_ := ⟨_, rfl⟩
      rw [hy_] at hx0 hx1 hx2 hx3 hx4 hx5 hps
      obtain ⟨⟨x0, x1⟩, x2, x3, x4, x5⟩ := y_
      dsimp only at hx0 hx1 hx2 hx3 hx4 hx5
      have HY_ := Aside0.mk hy_
      clear hrd hy_
      obtain ⟨W2, hW2⟩ : ∃ W2, (wr.alloc (.cells #[.int .i64 x0, .int .i64 x1, .int .i64 x2, .int .i64 x3, .int .i64 x4, .int .i64 x5] 28)).alloc (.cells #[.int .i64 x0, .int .i64 x1, .int .i64 x2, .int .i64 x3, .int .i64 x4, .int .i64 x5] 110) = W2 := ⟨_, rfl⟩
      have hg2 : Below wr.heap.size wr W2 := by rw [← hW2]; exact below_alloc (below_alloc (Below.refl _ _) _) _
      have hJ2 : J (wplaces l k) W2 := by
        rw [← hW2]
        exact HJ.out _ _ _ none (HJ.out _ _ (wr.alloc (.cells #[.int .i64 x0, .int .i64 x1, .int .i64 x2, .int .i64 x3, .int .i64 x4, .int .i64 x5] 28)) none HJr.out (World.grownBy_alloc wr _ none) (fun r e => by cases e)) (World.grownBy_alloc _ _ none) (fun r e => by cases e)
      have hb4 : W2.heap[wr.heap.size]? = some (.cells #[.int .i64 x0, .int .i64 x1, .int .i64 x2, .int .i64 x3, .int .i64 x4, .int .i64 x5] 28 (0, 0)) := by rw [← hW2]; exact blk_below (blk_new wr _) (below_alloc (Below.refl _ _) _)
      have HJ2 := Aside0.mk hJ2
      have HB2 := Aside0.mk (below_then HB.out HB.out.size hg2)
      have BB2 := Aside0.mk (blk_below BKB.out hg2)
      have HS2 := Aside0.mk (Nat.le_trans HS.out hg2.size)
      have B4 := Aside0.mk hb4
      have PS := Aside0.mk hps
      clear hJ2 hg2 hb4 hps
      have hm := waits_method (.agg #[.int .i64 x0, .int .i64 x1, .int .i64 x2, .int .i64 x3, .int .i64 x4, .int .i64 x5])
      have hfa : ∀ f, Fence.wide.fn f := fun _ => trivial
      by_cases ht : (x2 == 1 || x2 == 4) = true
      · have HT_ := Aside0.mk ht
        have e1 : wtP (⟨⟨x0, x1⟩, x2, x3, x4, x5⟩ : S28) = true := ht
        have PS2 := Aside0.mk (PS.out.trans (by rw [if_pos e1]))
        obtain ⟨fn, tmps, assign, body, hy, hR⟩ := HY.out _ ⟨k, hlt⟩ _ HJ2.out (wplaces_lt _ _ hlt)
        dsimp only at hy
        rw [HY_.out] at hy
        have HR2 := Aside0.mk hR
        have hc0 := (blk_cell B4.out 0).trans rfl; have hc1 := (blk_cell B4.out 1).trans rfl; have hc2 := (blk_cell B4.out 2).trans rfl; have hc3 := (blk_cell B4.out 3).trans rfl; have hc4 := (blk_cell B4.out 4).trans rfl; have hc5 := (blk_cell B4.out 5).trans rfl
        clear hR ht e1
        gi_wp2_with (gi_at_call 125; refine (callsIn_wide.2 (ringing_waits.calls x0 x1 x2 x3 x4 x5 _)).mono ?_; rintro e w' ⟨rfl, rfl⟩; rw [hW2, HT_.out])
        refine HR2.out.mono ?_
        rintro e W3 (⟨rfl, hJ3, hk3⟩ | ⟨rfl, hJx3⟩)
        · have N1 := Aside0.mk hJ3
          have N2 := Aside0.mk (HB2.out.trans hk3.bel)
          have N3 := Aside0.mk (hk3.one _ BB2.out)
          have N5 := Aside0.mk (Nat.le_trans HS2.out hk3.bel.size)
          clear hJ3 hk3
          gi_wp2
          go_roundw
          case rel => exact ⟨k + 1, by omega, by go_num, ⟨by rw [PS2.out]; exact N1.out⟩, N2, N5, N3⟩
          case measure => simp [intOf]; omega
        · gi_wp2
          refine bodyPost_ret (results_none rfl _ _ _) rfl ?_
          exact ⟨⟨_, rfl⟩, .inr ⟨_, trivial, hJx3⟩⟩
      · replace ht := Bool.eq_false_iff.mpr ht
        have HT_ := Aside0.mk ht
        have e1 : ¬ wtP (⟨⟨x0, x1⟩, x2, x3, x4, x5⟩ : S28) = true := fun h => by rw [show wtP (⟨⟨x0, x1⟩, x2, x3, x4, x5⟩ : S28) = (x2 == 1 || x2 == 4) from rfl, ht] at h; cases h
        have PS2 := Aside0.mk (PS.out.trans (by rw [if_neg e1, List.append_nil]))
        clear ht e1
        gi_wp2_with (gi_at_call 125; refine (callsIn_wide.2 (ringing_waits.calls x0 x1 x2 x3 x4 x5 _)).mono ?_; rintro e w' ⟨rfl, rfl⟩; rw [hW2, HT_.out])
        go_roundw
        case rel => exact ⟨k + 1, by omega, by go_num, ⟨by rw [PS2.out]; exact HJ2.out⟩, HB2, HS2, BB2⟩
        case measure => simp [intOf]; omega
    · gi_wp2
      go_end0
      obtain rfl : k = l.length := by omega
      exact ⟨⟨_, rfl⟩, .inl ⟨_, rfl, HJr.out⟩⟩
end

/-! ### alarm_timed_due: function 66 -/
def alarm_timed_due.f (a0_0 : Int) (a0_1 : Int) (a0_2 : Int) (a0_3 : Int) (a0_4 : Int) (a0_5 : Int) (a1 : Int) : Option (Bool) := if a0_2 = 1 then (some (decide (a0_5 ≤ a1))) else (if a0_2 = 4 then (some (decide (a0_5 ≤ a1))) else (some false))
set_option maxHeartbeats 8000000 in
set_option maxRecDepth 100000 in
theorem alarm_timed_due.calls (a0_0 : Int) (a0_1 : Int) (a0_2 : Int) (a0_3 : Int) (a0_4 : Int) (a0_5 : Int) (a1 : Int) (r : Bool) (w : World) (h : alarm_timed_due.f a0_0 a0_1 a0_2 a0_3 a0_4 a0_5 a1 = some r) :
  Calls Try.prog 66 #[.agg #[.int .i64 a0_0, .int .i64 a0_1, .int .i64 a0_2, .int .i64 a0_3, .int .i64 a0_4, .int .i64 a0_5], .int .i64 a1] w fun e w' => e = .returned (.bool r) ∧ Below w.heap.size w w' := by
 have hu87 := Try.underlying87
 have HB := Aside0.mk (Below.refl w.heap.size w)
 have H : (if a0_2 = 1 then (some (decide (a0_5 ≤ a1))) else (if a0_2 = 4 then (some (decide (a0_5 ≤ a1))) else (some false))) = some r := h
 clear h
 by_cases c3 : a0_2 = 1
 ·rw [if_pos c3] at H
  have c3b0 : (a0_2 == 1) = true := beq_iff_eq.mpr c3
  have c3b1 : (a0_2 != 1) = false := bne_eq_false_iff_eq.mpr c3
  clear c3
  obtain rfl := Option.some.inj H
  go_enter Try.func66, Try.ntmps66
  go_wp2_with (first | ((with_reducible refine gate_dst (N := 2) rfl ?_); refine box_event ?hg (N := 2) ?hd (cs := #[.int .i64 a0_0, .int .i64 a0_1, .int .i64 a0_2, .int .i64 a0_3, .int .i64 a0_4, .int .i64 a0_5]) (t := 87) ?hr ?_; (case hd => rfl); (case hg => rfl); (case hr => first | (go_simp; done) | (go_simp; rfl)); intro gb128 hg w4 hbox hb; have BK128 := Aside0.mk (hbox); have GW128 := Aside0.mk ((by rw [hg]; exact (below_size HB.out) : w.heap.size ≤ gb128)); have GE128 := Aside0.mk ((by rw [hg]; exact (below_size HB.out) : w.heap.size ≤ gb128)); replace HB := Aside0.mk (below_step HB.out hb); clear hb hbox hg; have hcz5_0 : w4.cell? ⟨gb128, 0, none⟩ = some (.int .i64 a0_0) := (blk_cell BK128.out 0).trans rfl; have hcz5_1 : w4.cell? ⟨gb128, 1, none⟩ = some (.int .i64 a0_1) := (blk_cell BK128.out 1).trans rfl; have hcz5_2 : w4.cell? ⟨gb128, 2, none⟩ = some (.int .i64 a0_2) := (blk_cell BK128.out 2).trans rfl; have hcz5_3 : w4.cell? ⟨gb128, 3, none⟩ = some (.int .i64 a0_3) := (blk_cell BK128.out 3).trans rfl; have hcz5_4 : w4.cell? ⟨gb128, 4, none⟩ = some (.int .i64 a0_4) := (blk_cell BK128.out 4).trans rfl; have hcz5_5 : w4.cell? ⟨gb128, 5, none⟩ = some (.int .i64 a0_5) := (blk_cell BK128.out 5).trans rfl; have hfz5_0 := blk_frozen BK128.out 0; have hfz5_1 := blk_frozen BK128.out 1; have hfz5_2 := blk_frozen BK128.out 2; have hfz5_3 := blk_frozen BK128.out 3; have hfz5_4 := blk_frozen BK128.out 4; have hfz5_5 := blk_frozen BK128.out 5))
  go_ret
  exact ⟨by first | rfl | (simp [errW_none, errW_some] <;> rfl) | (simp [*, errW_none, errW_some] <;> rfl), by repeat (with_reducible first | exact HB.out | apply pw_below_drewN | apply below_drew1 | refine below_set ?_ GE128.out)⟩
 ·rw [if_neg c3] at H
  have c3b0 : (a0_2 == 1) = false := beq_eq_false_iff_ne.mpr c3
  have c3b1 : (a0_2 != 1) = true := bne_iff_ne.mpr c3
  by_cases c6 : a0_2 = 4
  ·rw [if_pos c6] at H
   have c6b0 : (a0_2 == 4) = true := beq_iff_eq.mpr c6
   have c6b1 : (a0_2 != 4) = false := bne_eq_false_iff_eq.mpr c6
   clear c6
   obtain rfl := Option.some.inj H
   go_enter Try.func66, Try.ntmps66
   go_wp2_with (first | ((with_reducible refine gate_dst (N := 2) rfl ?_); refine box_event ?hg (N := 2) ?hd (cs := #[.int .i64 a0_0, .int .i64 a0_1, .int .i64 a0_2, .int .i64 a0_3, .int .i64 a0_4, .int .i64 a0_5]) (t := 87) ?hr ?_; (case hd => rfl); (case hg => rfl); (case hr => first | (go_simp; done) | (go_simp; rfl)); intro gb128 hg w7 hbox hb; have BK128 := Aside0.mk (hbox); have GW128 := Aside0.mk ((by rw [hg]; exact (below_size HB.out) : w.heap.size ≤ gb128)); have GE128 := Aside0.mk ((by rw [hg]; exact (below_size HB.out) : w.heap.size ≤ gb128)); replace HB := Aside0.mk (below_step HB.out hb); clear hb hbox hg; have hcz8_0 : w7.cell? ⟨gb128, 0, none⟩ = some (.int .i64 a0_0) := (blk_cell BK128.out 0).trans rfl; have hcz8_1 : w7.cell? ⟨gb128, 1, none⟩ = some (.int .i64 a0_1) := (blk_cell BK128.out 1).trans rfl; have hcz8_2 : w7.cell? ⟨gb128, 2, none⟩ = some (.int .i64 a0_2) := (blk_cell BK128.out 2).trans rfl; have hcz8_3 : w7.cell? ⟨gb128, 3, none⟩ = some (.int .i64 a0_3) := (blk_cell BK128.out 3).trans rfl; have hcz8_4 : w7.cell? ⟨gb128, 4, none⟩ = some (.int .i64 a0_4) := (blk_cell BK128.out 4).trans rfl; have hcz8_5 : w7.cell? ⟨gb128, 5, none⟩ = some (.int .i64 a0_5) := (blk_cell BK128.out 5).trans rfl; have hfz8_0 := blk_frozen BK128.out 0; have hfz8_1 := blk_frozen BK128.out 1; have hfz8_2 := blk_frozen BK128.out 2; have hfz8_3 := blk_frozen BK128.out 3; have hfz8_4 := blk_frozen BK128.out 4; have hfz8_5 := blk_frozen BK128.out 5))
   go_ret
   exact ⟨by first | rfl | (simp [errW_none, errW_some] <;> rfl) | (simp [*, errW_none, errW_some] <;> rfl), by repeat (with_reducible first | exact HB.out | apply pw_below_drewN | apply below_drew1 | refine below_set ?_ GE128.out)⟩
  ·rw [if_neg c6] at H
   have c6b0 : (a0_2 == 4) = false := beq_eq_false_iff_ne.mpr c6
   have c6b1 : (a0_2 != 4) = true := bne_iff_ne.mpr c6
   obtain rfl := Option.some.inj H
   go_enter Try.func66, Try.ntmps66
   go_wp2_with (first | ((with_reducible refine gate_dst (N := 2) rfl ?_); refine box_event ?hg (N := 2) ?hd (cs := #[.int .i64 a0_0, .int .i64 a0_1, .int .i64 a0_2, .int .i64 a0_3, .int .i64 a0_4, .int .i64 a0_5]) (t := 87) ?hr ?_; (case hd => rfl); (case hg => rfl); (case hr => first | (go_simp; done) | (go_simp; rfl)); intro gb128 hg w9 hbox hb; have BK128 := Aside0.mk (hbox); have GW128 := Aside0.mk ((by rw [hg]; exact (below_size HB.out) : w.heap.size ≤ gb128)); have GE128 := Aside0.mk ((by rw [hg]; exact (below_size HB.out) : w.heap.size ≤ gb128)); replace HB := Aside0.mk (below_step HB.out hb); clear hb hbox hg; have hcz10_0 : w9.cell? ⟨gb128, 0, none⟩ = some (.int .i64 a0_0) := (blk_cell BK128.out 0).trans rfl; have hcz10_1 : w9.cell? ⟨gb128, 1, none⟩ = some (.int .i64 a0_1) := (blk_cell BK128.out 1).trans rfl; have hcz10_2 : w9.cell? ⟨gb128, 2, none⟩ = some (.int .i64 a0_2) := (blk_cell BK128.out 2).trans rfl; have hcz10_3 : w9.cell? ⟨gb128, 3, none⟩ = some (.int .i64 a0_3) := (blk_cell BK128.out 3).trans rfl; have hcz10_4 : w9.cell? ⟨gb128, 4, none⟩ = some (.int .i64 a0_4) := (blk_cell BK128.out 4).trans rfl; have hcz10_5 : w9.cell? ⟨gb128, 5, none⟩ = some (.int .i64 a0_5) := (blk_cell BK128.out 5).trans rfl; have hfz10_0 := blk_frozen BK128.out 0; have hfz10_1 := blk_frozen BK128.out 1; have hfz10_2 := blk_frozen BK128.out 2; have hfz10_3 := blk_frozen BK128.out 3; have hfz10_4 := blk_frozen BK128.out 4; have hfz10_5 := blk_frozen BK128.out 5))
   go_ret
   exact ⟨by first | rfl | (simp [errW_none, errW_some] <;> rfl) | (simp [*, errW_none, errW_some] <;> rfl), by repeat (with_reducible first | exact HB.out | apply pw_below_drewN | apply below_drew1 | refine below_set ?_ GE128.out)⟩

end Go.Proofs.Ytcfpbmdndapeaaa.F
