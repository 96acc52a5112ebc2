-- Written by a program of this session (xprint.py), out of the translation and of contracts proved by hand.
import Derived.Test.YtcfpbmdndapeaaaF0
import Derived.Test.YtcfpbmdndapeaaaF3
import Derived.Test.YtcfpbmdndapeaaaF4
namespace Go.Proofs.Ytcfpbmdndapeaaa.F
open Go.RowKit Go.Proofs.YtcfpbmdndapeaaaV.PrintWords Go.Proofs.YtcfpbmdndapeaaaV.PrintLast Go.Proofs.YtcfpbmdndapeaaaV.PrintMore
attribute [local go_sem] max2_int min2_int max_two min_two max_three min_three max_four min_four   -- for this text's walks alone
set_option linter.unusedVariables false
set_option linter.unusedSimpArgs false

/-! ### board_Is: function 32 -/
def board_Is.f (k : Nat) (a0_0 : Int) (a0_1 : Int) (l0_2 : List (S28)) : Option (Bool) := if a0_0 ≥ 1 then (if a0_0 ≤ 200 then (if a0_1 ≥ 0 then (if a0_1 ≤ 1000000000 then (if (l0_2.length : Int) ≤ a0_0 then ((board_open.f a0_0 a0_1 l0_2).bind fun bt118 => ((board_alarms_rise.f k bt118.1 a0_1).bind fun t126 => (some t126))) else (some false)) else (some false)) else (some false)) else (some false)) else (some false)
theorem board_Is.mono : ∀ a0 a1 a2 k, LeO (board_Is.f k a0 a1 a2) (board_Is.f (k + 1) a0 a1 a2) := by
 intro a0 a1 a2 k
 unfold board_Is.f
 repeat' first
  | (with_reducible exact board_alarms_rise.mono _ _ _)
  | (with_reducible exact LeO.refl _)
  | (with_reducible exact LeO.none _)
  | (with_reducible refine LeO.ite ?_ ?_)
  | (with_reducible refine LeO.bind ?_ (fun _ => ?_))
  | exact board_alarms_rise.mono _ _ _
  | exact LeO.none _
  | refine LeO.ite ?_ ?_
  | refine LeO.bind ?_ (fun _ => ?_)
def board_Is.T1 : Bool × List (List Nat × List Nat) := (true, [([], []), ([0], [0]), ([1], [1]), ([2], [2]), ([3], [3]), ([4, 3], [3, 4]), ([5, 3], [3, 5]), ([3, 6], [3, 6]), ([7, 3], [7]), ([8], [8]), ([9, 8], [8, 9]), ([10, 8], [8, 10]), ([8, 11], [8, 11]), ([12, 8], [12]), ([13], [13]), ([14, 13], [13, 14]), ([15, 13], [13, 15]), ([13, 16], [13, 16]), ([17, 13], [17]), ([18], [18]), ([19, 18], [18, 19]), ([20, 18], [18, 20]), ([18], [18]), ([22, 18], [18, 22]), ([21, 23, 18], [18, 21, 23]), ([18, 24], [18, 24]), ([25, 18], [25]), ([26], [26]), ([27, 26, 26], [26, 27]), ([28, 26], [26, 28]), ([26], [26]), ([30, 26], [26, 30]), ([29, 31, 28, 26], [26, 29, 31]), ([26, 32], [26, 32]), ([33, 32, 0, 1, 2, 3, 4, 5, 6, 7, 8, 9, 10, 11, 12, 13, 14, 15, 16, 17, 18, 19, 20, 21, 22, 23, 24, 25, 26, 27, 28, 29, 30, 31, 32, 33], [33])])
def board_Is.B1 : List Nat := [0, 1, 3, 7, 15, 31, 63, 127, 255, 511, 1023, 2047, 4095, 8191, 16383, 32767, 65535, 131071, 262143, 524287, 1048575, 2097151, 524287, 4718591, 16777215, 33554431, 67108863, 134217727, 268435455, 536870911, 134217727, 1207959551, 4294967295, 8589934591, 17179869183]
theorem board_Is.tab1 : rtab .any (opsOf Try.f32 1) = board_Is.T1 := by kernel_rfl
theorem board_Is.bits1 : waitsOk board_Is.T1.2 board_Is.B1 = true := by kernel_rfl
set_option maxHeartbeats 8000000 in
set_option maxRecDepth 100000 in
theorem board_Is.calls (k : Nat) (a0_0 : Int) (a0_1 : Int) (A0_2 : Option Addr) (c0_2 : Nat) (l0_2 : List (S28)) (r : Bool) (w : World) (hr0_2 : Kd.C k28 w A0_2 l0_2.length l0_2) (hc0_2 : l0_2.length ≤ c0_2) (h : board_Is.f k a0_0 a0_1 l0_2 = some r) :
 Calls Try.prog 32 #[.agg #[.int .i64 a0_0, .int .i64 a0_1, .slice A0_2 l0_2.length c0_2]] w fun e w' => e = .returned (.bool r) ∧ Below w.heap.size w w' := by
 have hu24 := Try.underlying24
 have HR0_2 := Aside0.mk hr0_2
 have HC0_2 := Aside0.mk hc0_2
 clear hr0_2 hc0_2
 have HB := Aside0.mk (Below.refl w.heap.size w)
 have H : (if a0_0 ≥ 1 then (if a0_0 ≤ 200 then (if a0_1 ≥ 0 then (if a0_1 ≤ 1000000000 then (if (l0_2.length : Int) ≤ a0_0 then ((board_open.f a0_0 a0_1 l0_2).bind fun bt118 => ((board_alarms_rise.f k bt118.1 a0_1).bind fun t126 => (some t126))) else (some false)) else (some false)) else (some false)) else (some false)) else (some false)) = some r := h
 clear h
 by_cases c2 : a0_0 ≥ 1
 ·rw [if_pos c2] at H
  have c2b0 : decide (1 ≤ a0_0) = true := decide_eq_true c2
  clear c2
  by_cases c3 : a0_0 ≤ 200
  ·rw [if_pos c3] at H
   have c3b0 : decide (a0_0 ≤ 200) = true := decide_eq_true c3
   clear c3
   by_cases c4 : a0_1 ≥ 0
   ·rw [if_pos c4] at H
    have c4b0 : decide (0 ≤ a0_1) = true := decide_eq_true c4
    clear c4
    by_cases c5 : a0_1 ≤ 1000000000
    ·rw [if_pos c5] at H
     have c5b0 : decide (a0_1 ≤ 1000000000) = true := decide_eq_true c5
     clear c5
     by_cases c6 : (l0_2.length : Int) ≤ a0_0
     ·rw [if_pos c6] at H
      have c6b0 : decide ((l0_2.length : Int) ≤ a0_0) = true := decide_eq_true c6
      clear c6
      replace H := Option.bind_eq_some_iff.mp H
      obtain ⟨⟨t118, t121, t122, t123⟩, A70, H⟩ := H
      try dsimp only at H
      have A7 := Aside0.mk A70
      clear A70
      replace H := Option.bind_eq_some_iff.mp H
      obtain ⟨t126, A80, H⟩ := H
      try dsimp only at H
      have A8 := Aside0.mk A80
      clear A80
      obtain rfl := Option.some.inj H
      go_enter Try.func32, Try.ntmps32
      try go_wp2_with (first | ((with_reducible refine gate_dst (N := 1) rfl ?_); (try (refine gate_guard (by rfl) ?_; dsimp only)); refine box_event ?hg (N := 1) ?hd (cs := #[.int .i64 a0_0, .int .i64 a0_1, .slice A0_2 l0_2.length c0_2]) (t := 24) ?hr ?_; (case hd => rfl); (case hg => rfl); (case hr => first | (go_simp; done) | (go_simp; rfl)); intro gb117 hg w9 hbox hb; have BK117 := Aside0.mk (hbox); have GW117 := Aside0.mk ((by rw [hg]; exact (below_size HB.out) : w.heap.size ≤ gb117)); have GE117 := Aside0.mk ((by rw [hg]; exact (below_size HB.out) : w.heap.size ≤ gb117)); replace HB := Aside0.mk (below_step HB.out hb); clear hb hbox hg))
      replace BK117 := Aside0.mk (blk_drew BK117.out)
      replace HB := Aside0.mk (below_drew1 HB.out)
      refine start_ (n := 35) (S := fun w' => w'.cell? ⟨gb117, 0, none⟩ = some (.int .i64 a0_0) ∧ w'.cell? ⟨gb117, 1, none⟩ = some (.int .i64 a0_1) ∧ w'.cell? ⟨gb117, 2, none⟩ = some (.slice A0_2 l0_2.length c0_2)) (ds := []) #[false, false, false, false, false, false, false, false, false, false, false, false, false, false, false, false, false, false, false, false, false, false, false, false, false, false, false, false, false, false, false, false, false, false, false] (by kernel_rfl) rfl rfl ⟨(blk_cell BK117.out 0).trans rfl, (blk_cell BK117.out 1).trans rfl, (blk_cell BK117.out 2).trans rfl⟩ (fun hHeld => ?_); refine with_tabW board_Is.tab1 board_Is.bits1 (fun HT_ HW_ => ?_)
      generalize w9.drew = w10 at BK117 HB hHeld ⊢
      have Q_ := Qs.mk (n := 35) [(0, 0, 3, 1), (2, 1, 4, 3), (0, 2, 5, 7), (0, 3, 6, 15), (0, 4, 7, 31), (2, 5, 8, 63), (0, 6, 9, 127), (0, 7, 10, 255), (0, 8, 11, 511), (0, 9, 12, 1023), (2, 10, 13, 2047), (0, 11, 14, 4095), (0, 12, 15, 8191), (0, 13, 16, 16383), (0, 14, 17, 32767), (2, 15, 18, 65535), (0, 16, 19, 131071), (0, 17, 20, 262143), (0, 18, 21, 524287), (0, 19, 22, 1048575), (0, 22, 25, 5242879), (2, 20, 23, 6291455), (0, 21, 24, 8388607), (2, 23, 26, 16777215), (0, 24, 27, 33554431), (0, 25, 28, 67108863), (0, 26, 29, 134217727), (0, 30, 33, 1207959551), (2, 27, 30, 1342177279), (2, 31, 34, 3489660927)]
      iterate 30 (first | (obtain ⟨q_, Q_⟩ := Qs.p Q_; refine pureQ_ q_ (v := ?_) (a' := ?_) rfl rfl (any_of HT_.out (by kernel_rfl)) (fun _ _ _ h => h) (Or.inl ⟨by rfl, ?_⟩) ?_ ?_; rotate_left; (intro w'; go_simp; (first | with_reducible rfl | (unfold Instr.field; simp only [go_sem, run_underlying Try.underlying72]; go_simp; rfl))); rotate_left; (simp only [Act.put, List.setIfInBounds_toArray, List.set_cons_zero, List.set_cons_succ, i64_w, i32_w]; rfl)) | (obtain ⟨q_, Q_⟩ := Qs.t Q_; refine takeQ_ q_ (v := ?_) (a' := ?_) rfl rfl (take_ofW HT_.out HW_.out (by kernel_rfl)) (fun _ _ _ h => h) (Or.inl ⟨by rfl, ?_⟩) hHeld ?_ ?_; rotate_left; (rintro w' ⟨s0, s1, s2⟩; go_simp; (first | with_reducible rfl | (unfold Instr.field; simp only [go_sem, run_underlying Try.underlying72]; go_simp; rfl))); rotate_left; (simp only [Act.put, List.setIfInBounds_toArray, List.set_cons_zero, List.set_cons_succ, i64_w, i32_w]; rfl)))
      clear Q_
      refine one_ (i := 28) (N := some 31) #[true, true, true, true, true, true, true, true, true, true, true, true, true, true, true, true, true, true, true, true, true, true, true, true, true, true, true, true, true, false, true, true, false, false, false] rfl rfl (one_of HT_.out (by kernel_rfl)) (by decide) (fun K hK => ?_)
      refine goes_ Try.func51 (by kernel_rfl) rfl #[.agg #[.int .i64 a0_0, .int .i64 a0_1, .slice A0_2 l0_2.length c0_2]] (by rfl) rfl rfl (by (try simp only [List.map_toArray, List.map_cons, List.map_nil]); first | done | rfl | (simp only [List.length_drop, List.length_take]; rfl)) ?_
      with_reducible refine (board_open.calls a0_0 a0_1 (fun k_ => k_ < w.heap.size) _ _ l0_2 t118 t121 t122 t123 _ ?side1 A7.out).mono ?_
      (case side1 => exact Kd.V_mk HC0_2.out (Kd.F_below (Kd.C_F k28_heap HR0_2.out) (by repeat (with_reducible first | exact HB.out | apply pw_below_drewN | apply below_drew1 | refine below_set ?_ GE117.out))))
      rintro e w11 ⟨v119, v124, rfl, ho0, ho1, hb⟩
      refine ⟨_, rfl, ?_⟩
      have HO120 := Aside0.mk (Kd.V_lower (Kd.V_mono (ok' := fun k_ => k_ ≠ gb117) ho0 (fun k_ hk_ => Or.elim hk_ (fun hs_ => fun e_ => Nat.not_le.2 hs_ (by rw [e_]; exact GW117.out)) (fun hn_ => (Kd.freshB (g := gb117) (o := .cells #[.int .i64 a0_0, .int .i64 a0_1, .slice A0_2 l0_2.length c0_2] 24 (0, 0)) BK117.out k_ hn_)))) (below_size (by repeat (with_reducible first | exact HB.out | apply pw_below_drewN | apply below_drew1 | refine below_set ?_ GE117.out))))
      have HO125 := Aside0.mk (Kd.V_lower (Kd.V_mono (ok' := fun k_ => k_ ≠ gb117) ho1 (fun k_ hk_ => Or.elim hk_ (fun hs_ => fun e_ => Nat.not_le.2 hs_ (by rw [e_]; exact GW117.out)) (fun hn_ => (Kd.freshB (g := gb117) (o := .cells #[.int .i64 a0_0, .int .i64 a0_1, .slice A0_2 l0_2.length c0_2] 24 (0, 0)) BK117.out k_ hn_)))) (below_size (by repeat (with_reducible first | exact HB.out | apply pw_below_drewN | apply below_drew1 | refine below_set ?_ GE117.out))))
      replace BK117 := bl_ BK117 hb
      replace HB := Aside0.mk (below_step (by repeat (with_reducible first | exact HB.out | apply pw_below_drewN | apply below_drew1 | refine below_set ?_ GE117.out)) hb)
      (try clear hb)
      (try clear hb2)
      (try clear hk)
      (try clear hi)
      (try clear ho0)
      (try clear ho1)
      obtain ⟨Ao12, co12, eo12⟩ := Kd.V_slice HO120.out
      (first | subst eo12 | (injection eo12 with f1_ f2_ f3_; have f4_ := f1_.symm; have f5_ := f3_.symm; clear f1_ f2_ f3_; subst f4_; subst f5_))
      refine hK.out _ _ ⟨(blk_cell BK117.out 0).trans rfl, (blk_cell BK117.out 1).trans rfl, (blk_cell BK117.out 2).trans rfl⟩ (fun hHeld => ?_)
      clear hK K
      refine norm_ (a' := ?_) ?_ ?_
      rotate_left
      ·show Act.put _ (some 31) _ = _
       simp only [Act.put, List.setIfInBounds_toArray, List.set_cons_zero, List.set_cons_succ, i64_w, i32_w]
       rfl
      refine pure_ (i := 29) (N := some 32) (v := ?_) (a' := ?_) (dn_ 32 35) rfl rfl (any_of HT_.out (by kernel_rfl)) (fun _ _ _ h => h) (Or.inl ⟨by rfl, ?_⟩) ?_ ?_
      rotate_left
      ·intro w'
       go_simp
       first | with_reducible rfl | (unfold Instr.field; simp only [go_sem, run_underlying Try.underlying72]; go_simp; rfl)
      rotate_left; (simp only [Act.put, List.setIfInBounds_toArray, List.set_cons_zero, List.set_cons_succ, i64_w, i32_w]; rfl)
      refine one_ (i := 32) (N := some 35) (dn_ 33 35) rfl rfl (one_of HT_.out (by kernel_rfl)) (by decide) (fun K hK => ?_)
      refine goes_ Try.func65 (by kernel_rfl) rfl #[.slice Ao12 t118.length co12, .int .i64 a0_1] (by rfl) rfl rfl (by (try simp only [List.map_toArray, List.map_cons, List.map_nil]); first | done | rfl | (simp only [List.length_drop, List.length_take]; rfl)) ?_
      with_reducible refine (board_alarms_rise.calls k _ _ t118 a0_1 t126 _ ?side1 ?side2 A8.out).mono ?_
      (case side1 => repeat (first | exact (Kd.V_reads' HO120.out).2.2 | (with_reducible refine Kd.C_alloc ?_ _) | (with_reducible refine Kd.C_drewN ?_ _) | (with_reducible refine Kd.C_drew ?_)))
      (case side2 => exact (Kd.V_reads' HO120.out).2.1)
      rintro e w13 ⟨rfl, hb⟩
      refine ⟨_, rfl, ?_⟩
      replace HO120 := Aside0.mk (Kd.V_below (HO120.out) hb)
      replace HO125 := Aside0.mk (Kd.V_below (HO125.out) hb)
      replace BK117 := bl_ BK117 hb
      replace HB := Aside0.mk (below_step (by repeat (with_reducible first | exact HB.out | apply pw_below_drewN | apply below_drew1 | refine below_set ?_ GE117.out)) hb)
      (try clear hb)
      (try clear hb2)
      (try clear hk)
      (try clear hi)
      refine hK.out _ _ ⟨(blk_cell BK117.out 0).trans rfl, (blk_cell BK117.out 1).trans rfl, (blk_cell BK117.out 2).trans rfl⟩ (fun hHeld => ?_)
      clear hK K
      refine norm_ (a' := ?_) ?_ ?_
      rotate_left
      ·show Act.put _ (some 35) _ = _
       simp only [Act.put, List.setIfInBounds_toArray, List.set_cons_zero, List.set_cons_succ, i64_w, i32_w]
       rfl
      refine pure_ (i := 33) (N := some 36) (v := ?_) (a' := ?_) (dn_ 34 35) rfl rfl (any_of HT_.out (by kernel_rfl)) (fun _ _ _ h => h) (Or.inl ⟨by rfl, ?_⟩) ?_ ?_
      rotate_left
      ·intro w'
       go_simp
       first | with_reducible rfl | (unfold Instr.field; simp only [go_sem, run_underlying Try.underlying72]; go_simp; rfl)
      rotate_left; (simp only [Act.put, List.setIfInBounds_toArray, List.set_cons_zero, List.set_cons_succ, i64_w, i32_w]; rfl)
      refine pure_ (i := 34) (N := some 2) (v := ?_) (a' := ?_) #[true, true, true, true, true, true, true, true, true, true, true, true, true, true, true, true, true, true, true, true, true, true, true, true, true, true, true, true, true, true, true, true, true, true, true] rfl rfl (any_of HT_.out (by kernel_rfl)) (fun _ _ _ h => h) (Or.inl ⟨by rfl, ?_⟩) ?_ ?_
      rotate_left
      ·intro w'
       go_simp
       first | with_reducible rfl | (unfold Instr.field; simp only [go_sem, run_underlying Try.underlying72]; go_simp; rfl)
      rotate_left; (simp only [Act.put, List.setIfInBounds_toArray, List.set_cons_zero, List.set_cons_succ, i64_w, i32_w]; rfl)
      refine done_ (done_of HT_.out (by kernel_rfl)) ?_
      try go_wp2
      go_ret
      exact ⟨by first | rfl | (simp [errW_none, errW_some] <;> rfl) | (simp [*, errW_none, errW_some] <;> rfl), by repeat (with_reducible first | exact HB.out | apply pw_below_drewN | apply below_drew1 | refine below_set ?_ GE117.out)⟩
     ·rw [if_neg c6] at H
      have c6b0 : decide ((l0_2.length : Int) ≤ a0_0) = false := decide_eq_false c6
      clear c6
      obtain rfl := Option.some.inj H
      go_enter Try.func32, Try.ntmps32
      try go_wp2_with (first | ((with_reducible refine gate_dst (N := 1) rfl ?_); (try (refine gate_guard (by rfl) ?_; dsimp only)); refine box_event ?hg (N := 1) ?hd (cs := #[.int .i64 a0_0, .int .i64 a0_1, .slice A0_2 l0_2.length c0_2]) (t := 24) ?hr ?_; (case hd => rfl); (case hg => rfl); (case hr => first | (go_simp; done) | (go_simp; rfl)); intro gb117 hg w14 hbox hb; have BK117 := Aside0.mk (hbox); have GW117 := Aside0.mk ((by rw [hg]; exact (below_size HB.out) : w.heap.size ≤ gb117)); have GE117 := Aside0.mk ((by rw [hg]; exact (below_size HB.out) : w.heap.size ≤ gb117)); replace HB := Aside0.mk (below_step HB.out hb); clear hb hbox hg))
      replace BK117 := Aside0.mk (blk_drew BK117.out)
      replace HB := Aside0.mk (below_drew1 HB.out)
      refine start_ (n := 35) (S := fun w' => w'.cell? ⟨gb117, 0, none⟩ = some (.int .i64 a0_0) ∧ w'.cell? ⟨gb117, 1, none⟩ = some (.int .i64 a0_1) ∧ w'.cell? ⟨gb117, 2, none⟩ = some (.slice A0_2 l0_2.length c0_2)) (ds := []) #[false, false, false, false, false, false, false, false, false, false, false, false, false, false, false, false, false, false, false, false, false, false, false, false, false, false, false, false, false, false, false, false, false, false, false] (by kernel_rfl) rfl rfl ⟨(blk_cell BK117.out 0).trans rfl, (blk_cell BK117.out 1).trans rfl, (blk_cell BK117.out 2).trans rfl⟩ (fun hHeld => ?_); refine with_tabW board_Is.tab1 board_Is.bits1 (fun HT_ HW_ => ?_)
      generalize w14.drew = w15 at BK117 HB hHeld ⊢
      have Q_ := Qs.mk (n := 35) [(0, 0, 3, 1), (2, 1, 4, 3), (0, 2, 5, 7), (0, 3, 6, 15), (0, 4, 7, 31), (2, 5, 8, 63), (0, 6, 9, 127), (0, 7, 10, 255), (0, 8, 11, 511), (0, 9, 12, 1023), (2, 10, 13, 2047), (0, 11, 14, 4095), (0, 12, 15, 8191), (0, 13, 16, 16383), (0, 14, 17, 32767), (2, 15, 18, 65535), (0, 16, 19, 131071), (0, 17, 20, 262143), (0, 18, 21, 524287), (0, 19, 22, 1048575), (0, 22, 25, 5242879), (2, 20, 23, 6291455), (0, 21, 24, 8388607), (2, 23, 26, 16777215), (0, 24, 27, 33554431), (0, 25, 28, 67108863), (0, 26, 29, 134217727), (1, 27, 30, 268435455), (1, 28, 31, 536870911), (1, 29, 32, 1073741823), (1, 30, 33, 2147483647), (1, 31, 34, 4294967295), (1, 32, 35, 8589934591), (0, 33, 36, 17179869183), (0, 34, 2, 34359738367)]
      iterate 35 (first | (obtain ⟨q_, Q_⟩ := Qs.p Q_; refine pureQ_ q_ (v := ?_) (a' := ?_) rfl rfl (any_of HT_.out (by kernel_rfl)) (fun _ _ _ h => h) (Or.inl ⟨by rfl, ?_⟩) ?_ ?_; rotate_left; (intro w'; go_simp; (first | with_reducible rfl | (unfold Instr.field; simp only [go_sem, run_underlying Try.underlying72]; go_simp; rfl))); rotate_left; (simp only [Act.put, List.setIfInBounds_toArray, List.set_cons_zero, List.set_cons_succ, i64_w, i32_w]; rfl)) | (obtain ⟨q_, Q_⟩ := Qs.u Q_; refine pureQ_ q_ (v := undef) (a' := ?_) rfl rfl (any_of HT_.out (by kernel_rfl)) (fun _ _ _ h => h) (Or.inr ⟨by rfl, rfl⟩) ?_ ?_; rotate_left; (simp only [Act.put, List.setIfInBounds_toArray, List.set_cons_zero, List.set_cons_succ, i64_w, i32_w]; rfl)) | (obtain ⟨q_, Q_⟩ := Qs.t Q_; refine takeQ_ q_ (v := ?_) (a' := ?_) rfl rfl (take_ofW HT_.out HW_.out (by kernel_rfl)) (fun _ _ _ h => h) (Or.inl ⟨by rfl, ?_⟩) hHeld ?_ ?_; rotate_left; (rintro w' ⟨s0, s1, s2⟩; go_simp; (first | with_reducible rfl | (unfold Instr.field; simp only [go_sem, run_underlying Try.underlying72]; go_simp; rfl))); rotate_left; (simp only [Act.put, List.setIfInBounds_toArray, List.set_cons_zero, List.set_cons_succ, i64_w, i32_w]; rfl)))
      clear Q_
      refine done_ (done_of HT_.out (by kernel_rfl)) ?_
      try go_wp2
      go_ret
      exact ⟨by first | rfl | (simp [errW_none, errW_some] <;> rfl) | (simp [*, errW_none, errW_some] <;> rfl), by repeat (with_reducible first | exact HB.out | apply pw_below_drewN | apply below_drew1 | refine below_set ?_ GE117.out)⟩
    ·rw [if_neg c5] at H
     have c5b0 : decide (a0_1 ≤ 1000000000) = false := decide_eq_false c5
     clear c5
     obtain rfl := Option.some.inj H
     go_enter Try.func32, Try.ntmps32
     try go_wp2_with (first | ((with_reducible refine gate_dst (N := 1) rfl ?_); (try (refine gate_guard (by rfl) ?_; dsimp only)); refine box_event ?hg (N := 1) ?hd (cs := #[.int .i64 a0_0, .int .i64 a0_1, .slice A0_2 l0_2.length c0_2]) (t := 24) ?hr ?_; (case hd => rfl); (case hg => rfl); (case hr => first | (go_simp; done) | (go_simp; rfl)); intro gb117 hg w16 hbox hb; have BK117 := Aside0.mk (hbox); have GW117 := Aside0.mk ((by rw [hg]; exact (below_size HB.out) : w.heap.size ≤ gb117)); have GE117 := Aside0.mk ((by rw [hg]; exact (below_size HB.out) : w.heap.size ≤ gb117)); replace HB := Aside0.mk (below_step HB.out hb); clear hb hbox hg))
     replace BK117 := Aside0.mk (blk_drew BK117.out)
     replace HB := Aside0.mk (below_drew1 HB.out)
     refine start_ (n := 35) (S := fun w' => w'.cell? ⟨gb117, 0, none⟩ = some (.int .i64 a0_0) ∧ w'.cell? ⟨gb117, 1, none⟩ = some (.int .i64 a0_1) ∧ w'.cell? ⟨gb117, 2, none⟩ = some (.slice A0_2 l0_2.length c0_2)) (ds := []) #[false, false, false, false, false, false, false, false, false, false, false, false, false, false, false, false, false, false, false, false, false, false, false, false, false, false, false, false, false, false, false, false, false, false, false] (by kernel_rfl) rfl rfl ⟨(blk_cell BK117.out 0).trans rfl, (blk_cell BK117.out 1).trans rfl, (blk_cell BK117.out 2).trans rfl⟩ (fun hHeld => ?_); refine with_tabW board_Is.tab1 board_Is.bits1 (fun HT_ HW_ => ?_)
     generalize w16.drew = w17 at BK117 HB hHeld ⊢
     have Q_ := Qs.mk (n := 35) [(0, 0, 3, 1), (2, 1, 4, 3), (0, 2, 5, 7), (0, 3, 6, 15), (0, 4, 7, 31), (2, 5, 8, 63), (0, 6, 9, 127), (0, 7, 10, 255), (0, 8, 11, 511), (0, 9, 12, 1023), (2, 10, 13, 2047), (0, 11, 14, 4095), (0, 12, 15, 8191), (0, 13, 16, 16383), (0, 14, 17, 32767), (2, 15, 18, 65535), (0, 16, 19, 131071), (0, 17, 20, 262143), (0, 18, 21, 524287), (1, 19, 22, 1048575), (1, 20, 23, 2097151), (1, 21, 24, 4194303), (1, 22, 25, 8388607), (1, 23, 26, 16777215), (1, 24, 27, 33554431), (0, 25, 28, 67108863), (0, 26, 29, 134217727), (1, 27, 30, 268435455), (1, 28, 31, 536870911), (1, 29, 32, 1073741823), (1, 30, 33, 2147483647), (1, 31, 34, 4294967295), (1, 32, 35, 8589934591), (0, 33, 36, 17179869183), (0, 34, 2, 34359738367)]
     iterate 35 (first | (obtain ⟨q_, Q_⟩ := Qs.p Q_; refine pureQ_ q_ (v := ?_) (a' := ?_) rfl rfl (any_of HT_.out (by kernel_rfl)) (fun _ _ _ h => h) (Or.inl ⟨by rfl, ?_⟩) ?_ ?_; rotate_left; (intro w'; go_simp; (first | with_reducible rfl | (unfold Instr.field; simp only [go_sem, run_underlying Try.underlying72]; go_simp; rfl))); rotate_left; (simp only [Act.put, List.setIfInBounds_toArray, List.set_cons_zero, List.set_cons_succ, i64_w, i32_w]; rfl)) | (obtain ⟨q_, Q_⟩ := Qs.u Q_; refine pureQ_ q_ (v := undef) (a' := ?_) rfl rfl (any_of HT_.out (by kernel_rfl)) (fun _ _ _ h => h) (Or.inr ⟨by rfl, rfl⟩) ?_ ?_; rotate_left; (simp only [Act.put, List.setIfInBounds_toArray, List.set_cons_zero, List.set_cons_succ, i64_w, i32_w]; rfl)) | (obtain ⟨q_, Q_⟩ := Qs.t Q_; refine takeQ_ q_ (v := ?_) (a' := ?_) rfl rfl (take_ofW HT_.out HW_.out (by kernel_rfl)) (fun _ _ _ h => h) (Or.inl ⟨by rfl, ?_⟩) hHeld ?_ ?_; rotate_left; (rintro w' ⟨s0, s1, s2⟩; go_simp; (first | with_reducible rfl | (unfold Instr.field; simp only [go_sem, run_underlying Try.underlying72]; go_simp; rfl))); rotate_left; (simp only [Act.put, List.setIfInBounds_toArray, List.set_cons_zero, List.set_cons_succ, i64_w, i32_w]; rfl)))
     clear Q_
     refine done_ (done_of HT_.out (by kernel_rfl)) ?_
     try go_wp2
     go_ret
     exact ⟨by first | rfl | (simp [errW_none, errW_some] <;> rfl) | (simp [*, errW_none, errW_some] <;> rfl), by repeat (with_reducible first | exact HB.out | apply pw_below_drewN | apply below_drew1 | refine below_set ?_ GE117.out)⟩
   ·rw [if_neg c4] at H
    have c4b0 : decide (0 ≤ a0_1) = false := decide_eq_false c4
    clear c4
    obtain rfl := Option.some.inj H
    go_enter Try.func32, Try.ntmps32
    try go_wp2_with (first | ((with_reducible refine gate_dst (N := 1) rfl ?_); (try (refine gate_guard (by rfl) ?_; dsimp only)); refine box_event ?hg (N := 1) ?hd (cs := #[.int .i64 a0_0, .int .i64 a0_1, .slice A0_2 l0_2.length c0_2]) (t := 24) ?hr ?_; (case hd => rfl); (case hg => rfl); (case hr => first | (go_simp; done) | (go_simp; rfl)); intro gb117 hg w18 hbox hb; have BK117 := Aside0.mk (hbox); have GW117 := Aside0.mk ((by rw [hg]; exact (below_size HB.out) : w.heap.size ≤ gb117)); have GE117 := Aside0.mk ((by rw [hg]; exact (below_size HB.out) : w.heap.size ≤ gb117)); replace HB := Aside0.mk (below_step HB.out hb); clear hb hbox hg))
    replace BK117 := Aside0.mk (blk_drew BK117.out)
    replace HB := Aside0.mk (below_drew1 HB.out)
    refine start_ (n := 35) (S := fun w' => w'.cell? ⟨gb117, 0, none⟩ = some (.int .i64 a0_0) ∧ w'.cell? ⟨gb117, 1, none⟩ = some (.int .i64 a0_1) ∧ w'.cell? ⟨gb117, 2, none⟩ = some (.slice A0_2 l0_2.length c0_2)) (ds := []) #[false, false, false, false, false, false, false, false, false, false, false, false, false, false, false, false, false, false, false, false, false, false, false, false, false, false, false, false, false, false, false, false, false, false, false] (by kernel_rfl) rfl rfl ⟨(blk_cell BK117.out 0).trans rfl, (blk_cell BK117.out 1).trans rfl, (blk_cell BK117.out 2).trans rfl⟩ (fun hHeld => ?_); refine with_tabW board_Is.tab1 board_Is.bits1 (fun HT_ HW_ => ?_)
    generalize w18.drew = w19 at BK117 HB hHeld ⊢
    have Q_ := Qs.mk (n := 35) [(0, 0, 3, 1), (2, 1, 4, 3), (0, 2, 5, 7), (0, 3, 6, 15), (0, 4, 7, 31), (2, 5, 8, 63), (0, 6, 9, 127), (0, 7, 10, 255), (0, 8, 11, 511), (0, 9, 12, 1023), (2, 10, 13, 2047), (0, 11, 14, 4095), (0, 12, 15, 8191), (0, 13, 16, 16383), (1, 14, 17, 32767), (1, 15, 18, 65535), (1, 16, 19, 131071), (0, 17, 20, 262143), (0, 18, 21, 524287), (1, 19, 22, 1048575), (1, 20, 23, 2097151), (1, 21, 24, 4194303), (1, 22, 25, 8388607), (1, 23, 26, 16777215), (1, 24, 27, 33554431), (0, 25, 28, 67108863), (0, 26, 29, 134217727), (1, 27, 30, 268435455), (1, 28, 31, 536870911), (1, 29, 32, 1073741823), (1, 30, 33, 2147483647), (1, 31, 34, 4294967295), (1, 32, 35, 8589934591), (0, 33, 36, 17179869183), (0, 34, 2, 34359738367)]
    iterate 35 (first | (obtain ⟨q_, Q_⟩ := Qs.p Q_; refine pureQ_ q_ (v := ?_) (a' := ?_) rfl rfl (any_of HT_.out (by kernel_rfl)) (fun _ _ _ h => h) (Or.inl ⟨by rfl, ?_⟩) ?_ ?_; rotate_left; (intro w'; go_simp; (first | with_reducible rfl | (unfold Instr.field; simp only [go_sem, run_underlying Try.underlying72]; go_simp; rfl))); rotate_left; (simp only [Act.put, List.setIfInBounds_toArray, List.set_cons_zero, List.set_cons_succ, i64_w, i32_w]; rfl)) | (obtain ⟨q_, Q_⟩ := Qs.u Q_; refine pureQ_ q_ (v := undef) (a' := ?_) rfl rfl (any_of HT_.out (by kernel_rfl)) (fun _ _ _ h => h) (Or.inr ⟨by rfl, rfl⟩) ?_ ?_; rotate_left; (simp only [Act.put, List.setIfInBounds_toArray, List.set_cons_zero, List.set_cons_succ, i64_w, i32_w]; rfl)) | (obtain ⟨q_, Q_⟩ := Qs.t Q_; refine takeQ_ q_ (v := ?_) (a' := ?_) rfl rfl (take_ofW HT_.out HW_.out (by kernel_rfl)) (fun _ _ _ h => h) (Or.inl ⟨by rfl, ?_⟩) hHeld ?_ ?_; rotate_left; (rintro w' ⟨s0, s1, s2⟩; go_simp; (first | with_reducible rfl | (unfold Instr.field; simp only [go_sem, run_underlying Try.underlying72]; go_simp; rfl))); rotate_left; (simp only [Act.put, List.setIfInBounds_toArray, List.set_cons_zero, List.set_cons_succ, i64_w, i32_w]; rfl)))
    clear Q_
    refine done_ (done_of HT_.out (by kernel_rfl)) ?_
    try go_wp2
    go_ret
    exact ⟨by first | rfl | (simp [errW_none, errW_some] <;> rfl) | (simp [*, errW_none, errW_some] <;> rfl), by repeat (with_reducible first | exact HB.out | apply pw_below_drewN | apply below_drew1 | refine below_set ?_ GE117.out)⟩
  ·rw [if_neg c3] at H
   have c3b0 : decide (a0_0 ≤ 200) = false := decide_eq_false c3
   clear c3
   obtain rfl := Option.some.inj H
   go_enter Try.func32, Try.ntmps32
   try go_wp2_with (first | ((with_reducible refine gate_dst (N := 1) rfl ?_); (try (refine gate_guard (by rfl) ?_; dsimp only)); refine box_event ?hg (N := 1) ?hd (cs := #[.int .i64 a0_0, .int .i64 a0_1, .slice A0_2 l0_2.length c0_2]) (t := 24) ?hr ?_; (case hd => rfl); (case hg => rfl); (case hr => first | (go_simp; done) | (go_simp; rfl)); intro gb117 hg w20 hbox hb; have BK117 := Aside0.mk (hbox); have GW117 := Aside0.mk ((by rw [hg]; exact (below_size HB.out) : w.heap.size ≤ gb117)); have GE117 := Aside0.mk ((by rw [hg]; exact (below_size HB.out) : w.heap.size ≤ gb117)); replace HB := Aside0.mk (below_step HB.out hb); clear hb hbox hg))
   replace BK117 := Aside0.mk (blk_drew BK117.out)
   replace HB := Aside0.mk (below_drew1 HB.out)
   refine start_ (n := 35) (S := fun w' => w'.cell? ⟨gb117, 0, none⟩ = some (.int .i64 a0_0) ∧ w'.cell? ⟨gb117, 1, none⟩ = some (.int .i64 a0_1) ∧ w'.cell? ⟨gb117, 2, none⟩ = some (.slice A0_2 l0_2.length c0_2)) (ds := []) #[false, false, false, false, false, false, false, false, false, false, false, false, false, false, false, false, false, false, false, false, false, false, false, false, false, false, false, false, false, false, false, false, false, false, false] (by kernel_rfl) rfl rfl ⟨(blk_cell BK117.out 0).trans rfl, (blk_cell BK117.out 1).trans rfl, (blk_cell BK117.out 2).trans rfl⟩ (fun hHeld => ?_); refine with_tabW board_Is.tab1 board_Is.bits1 (fun HT_ HW_ => ?_)
   generalize w20.drew = w21 at BK117 HB hHeld ⊢
   have Q_ := Qs.mk (n := 35) [(0, 0, 3, 1), (2, 1, 4, 3), (0, 2, 5, 7), (0, 3, 6, 15), (0, 4, 7, 31), (2, 5, 8, 63), (0, 6, 9, 127), (0, 7, 10, 255), (0, 8, 11, 511), (1, 9, 12, 1023), (1, 10, 13, 2047), (1, 11, 14, 4095), (0, 12, 15, 8191), (0, 13, 16, 16383), (1, 14, 17, 32767), (1, 15, 18, 65535), (1, 16, 19, 131071), (0, 17, 20, 262143), (0, 18, 21, 524287), (1, 19, 22, 1048575), (1, 20, 23, 2097151), (1, 21, 24, 4194303), (1, 22, 25, 8388607), (1, 23, 26, 16777215), (1, 24, 27, 33554431), (0, 25, 28, 67108863), (0, 26, 29, 134217727), (1, 27, 30, 268435455), (1, 28, 31, 536870911), (1, 29, 32, 1073741823), (1, 30, 33, 2147483647), (1, 31, 34, 4294967295), (1, 32, 35, 8589934591), (0, 33, 36, 17179869183), (0, 34, 2, 34359738367)]
   iterate 35 (first | (obtain ⟨q_, Q_⟩ := Qs.p Q_; refine pureQ_ q_ (v := ?_) (a' := ?_) rfl rfl (any_of HT_.out (by kernel_rfl)) (fun _ _ _ h => h) (Or.inl ⟨by rfl, ?_⟩) ?_ ?_; rotate_left; (intro w'; go_simp; (first | with_reducible rfl | (unfold Instr.field; simp only [go_sem, run_underlying Try.underlying72]; go_simp; rfl))); rotate_left; (simp only [Act.put, List.setIfInBounds_toArray, List.set_cons_zero, List.set_cons_succ, i64_w, i32_w]; rfl)) | (obtain ⟨q_, Q_⟩ := Qs.u Q_; refine pureQ_ q_ (v := undef) (a' := ?_) rfl rfl (any_of HT_.out (by kernel_rfl)) (fun _ _ _ h => h) (Or.inr ⟨by rfl, rfl⟩) ?_ ?_; rotate_left; (simp only [Act.put, List.setIfInBounds_toArray, List.set_cons_zero, List.set_cons_succ, i64_w, i32_w]; rfl)) | (obtain ⟨q_, Q_⟩ := Qs.t Q_; refine takeQ_ q_ (v := ?_) (a' := ?_) rfl rfl (take_ofW HT_.out HW_.out (by kernel_rfl)) (fun _ _ _ h => h) (Or.inl ⟨by rfl, ?_⟩) hHeld ?_ ?_; rotate_left; (rintro w' ⟨s0, s1, s2⟩; go_simp; (first | with_reducible rfl | (unfold Instr.field; simp only [go_sem, run_underlying Try.underlying72]; go_simp; rfl))); rotate_left; (simp only [Act.put, List.setIfInBounds_toArray, List.set_cons_zero, List.set_cons_succ, i64_w, i32_w]; rfl)))
   clear Q_
   refine done_ (done_of HT_.out (by kernel_rfl)) ?_
   try go_wp2
   go_ret
   exact ⟨by first | rfl | (simp [errW_none, errW_some] <;> rfl) | (simp [*, errW_none, errW_some] <;> rfl), by repeat (with_reducible first | exact HB.out | apply pw_below_drewN | apply below_drew1 | refine below_set ?_ GE117.out)⟩
 ·rw [if_neg c2] at H
  have c2b0 : decide (1 ≤ a0_0) = false := decide_eq_false c2
  clear c2
  obtain rfl := Option.some.inj H
  go_enter Try.func32, Try.ntmps32
  try go_wp2_with (first | ((with_reducible refine gate_dst (N := 1) rfl ?_); (try (refine gate_guard (by rfl) ?_; dsimp only)); refine box_event ?hg (N := 1) ?hd (cs := #[.int .i64 a0_0, .int .i64 a0_1, .slice A0_2 l0_2.length c0_2]) (t := 24) ?hr ?_; (case hd => rfl); (case hg => rfl); (case hr => first | (go_simp; done) | (go_simp; rfl)); intro gb117 hg w22 hbox hb; have BK117 := Aside0.mk (hbox); have GW117 := Aside0.mk ((by rw [hg]; exact (below_size HB.out) : w.heap.size ≤ gb117)); have GE117 := Aside0.mk ((by rw [hg]; exact (below_size HB.out) : w.heap.size ≤ gb117)); replace HB := Aside0.mk (below_step HB.out hb); clear hb hbox hg))
  replace BK117 := Aside0.mk (blk_drew BK117.out)
  replace HB := Aside0.mk (below_drew1 HB.out)
  refine start_ (n := 35) (S := fun w' => w'.cell? ⟨gb117, 0, none⟩ = some (.int .i64 a0_0) ∧ w'.cell? ⟨gb117, 1, none⟩ = some (.int .i64 a0_1) ∧ w'.cell? ⟨gb117, 2, none⟩ = some (.slice A0_2 l0_2.length c0_2)) (ds := []) #[false, false, false, false, false, false, false, false, false, false, false, false, false, false, false, false, false, false, false, false, false, false, false, false, false, false, false, false, false, false, false, false, false, false, false] (by kernel_rfl) rfl rfl ⟨(blk_cell BK117.out 0).trans rfl, (blk_cell BK117.out 1).trans rfl, (blk_cell BK117.out 2).trans rfl⟩ (fun hHeld => ?_); refine with_tabW board_Is.tab1 board_Is.bits1 (fun HT_ HW_ => ?_)
  generalize w22.drew = w23 at BK117 HB hHeld ⊢
  have Q_ := Qs.mk (n := 35) [(0, 0, 3, 1), (2, 1, 4, 3), (0, 2, 5, 7), (0, 3, 6, 15), (1, 4, 7, 31), (1, 5, 8, 63), (1, 6, 9, 127), (0, 7, 10, 255), (0, 8, 11, 511), (1, 9, 12, 1023), (1, 10, 13, 2047), (1, 11, 14, 4095), (0, 12, 15, 8191), (0, 13, 16, 16383), (1, 14, 17, 32767), (1, 15, 18, 65535), (1, 16, 19, 131071), (0, 17, 20, 262143), (0, 18, 21, 524287), (1, 19, 22, 1048575), (1, 20, 23, 2097151), (1, 21, 24, 4194303), (1, 22, 25, 8388607), (1, 23, 26, 16777215), (1, 24, 27, 33554431), (0, 25, 28, 67108863), (0, 26, 29, 134217727), (1, 27, 30, 268435455), (1, 28, 31, 536870911), (1, 29, 32, 1073741823), (1, 30, 33, 2147483647), (1, 31, 34, 4294967295), (1, 32, 35, 8589934591), (0, 33, 36, 17179869183), (0, 34, 2, 34359738367)]
  iterate 35 (first | (obtain ⟨q_, Q_⟩ := Qs.p Q_; refine pureQ_ q_ (v := ?_) (a' := ?_) rfl rfl (any_of HT_.out (by kernel_rfl)) (fun _ _ _ h => h) (Or.inl ⟨by rfl, ?_⟩) ?_ ?_; rotate_left; (intro w'; go_simp; (first | with_reducible rfl | (unfold Instr.field; simp only [go_sem, run_underlying Try.underlying72]; go_simp; rfl))); rotate_left; (simp only [Act.put, List.setIfInBounds_toArray, List.set_cons_zero, List.set_cons_succ, i64_w, i32_w]; rfl)) | (obtain ⟨q_, Q_⟩ := Qs.u Q_; refine pureQ_ q_ (v := undef) (a' := ?_) rfl rfl (any_of HT_.out (by kernel_rfl)) (fun _ _ _ h => h) (Or.inr ⟨by rfl, rfl⟩) ?_ ?_; rotate_left; (simp only [Act.put, List.setIfInBounds_toArray, List.set_cons_zero, List.set_cons_succ, i64_w, i32_w]; rfl)) | (obtain ⟨q_, Q_⟩ := Qs.t Q_; refine takeQ_ q_ (v := ?_) (a' := ?_) rfl rfl (take_ofW HT_.out HW_.out (by kernel_rfl)) (fun _ _ _ h => h) (Or.inl ⟨by rfl, ?_⟩) hHeld ?_ ?_; rotate_left; (rintro w' ⟨s0, s1, s2⟩; go_simp; (first | with_reducible rfl | (unfold Instr.field; simp only [go_sem, run_underlying Try.underlying72]; go_simp; rfl))); rotate_left; (simp only [Act.put, List.setIfInBounds_toArray, List.set_cons_zero, List.set_cons_succ, i64_w, i32_w]; rfl)))
  clear Q_
  refine done_ (done_of HT_.out (by kernel_rfl)) ?_
  try go_wp2
  go_ret
  exact ⟨by first | rfl | (simp [errW_none, errW_some] <;> rfl) | (simp [*, errW_none, errW_some] <;> rfl), by repeat (with_reducible first | exact HB.out | apply pw_below_drewN | apply below_drew1 | refine below_set ?_ GE117.out)⟩

/-! ### alarm_timed_due: function 66 -/
def alarm_timed_due.f (a0_0 : Int) (a0_1 : Int) (a0_2 : Int) (a0_3 : Int) (a0_4 : Int) (a0_5 : Int) (a1 : Int) : Option (Bool) := if a0_2 = 1 then (some (decide (a0_5 ≤ a1))) else (if a0_2 = 4 then (some (decide (a0_5 ≤ a1))) else (some false))
set_option maxHeartbeats 8000000 in
set_option maxRecDepth 100000 in
theorem alarm_timed_due.calls (a0_0 : Int) (a0_1 : Int) (a0_2 : Int) (a0_3 : Int) (a0_4 : Int) (a0_5 : Int) (a1 : Int) (r : Bool) (w : World) (h : alarm_timed_due.f a0_0 a0_1 a0_2 a0_3 a0_4 a0_5 a1 = some r) :
 Calls Try.prog 66 #[.agg #[.int .i64 a0_0, .int .i64 a0_1, .int .i64 a0_2, .int .i64 a0_3, .int .i64 a0_4, .int .i64 a0_5], .int .i64 a1] w fun e w' => e = .returned (.bool r) ∧ Below w.heap.size w w' := by
 have hu87 := Try.underlying87
 have HB := Aside0.mk (Below.refl w.heap.size w)
 have H : (if a0_2 = 1 then (some (decide (a0_5 ≤ a1))) else (if a0_2 = 4 then (some (decide (a0_5 ≤ a1))) else (some false))) = some r := h
 clear h
 by_cases c3 : a0_2 = 1
 ·rw [if_pos c3] at H
  have c3b0 : (a0_2 == 1) = true := beq_iff_eq.mpr c3
  have c3b1 : (a0_2 != 1) = false := bne_eq_false_iff_eq.mpr c3
  clear c3
  obtain rfl := Option.some.inj H
  go_enter Try.func66, Try.ntmps66
  go_wp2_with (first | ((with_reducible refine gate_dst (N := 2) rfl ?_); refine box_event ?hg (N := 2) ?hd (cs := #[.int .i64 a0_0, .int .i64 a0_1, .int .i64 a0_2, .int .i64 a0_3, .int .i64 a0_4, .int .i64 a0_5]) (t := 87) ?hr ?_; (case hd => rfl); (case hg => rfl); (case hr => first | (go_simp; done) | (go_simp; rfl)); intro gb127 hg w4 hbox hb; have BK127 := Aside0.mk (hbox); have GW127 := Aside0.mk ((by rw [hg]; exact (below_size HB.out) : w.heap.size ≤ gb127)); have GE127 := Aside0.mk ((by rw [hg]; exact (below_size HB.out) : w.heap.size ≤ gb127)); replace HB := Aside0.mk (below_step HB.out hb); clear hb hbox hg; have hcz5_0 : w4.cell? ⟨gb127, 0, none⟩ = some (.int .i64 a0_0) := (blk_cell BK127.out 0).trans rfl; have hcz5_1 : w4.cell? ⟨gb127, 1, none⟩ = some (.int .i64 a0_1) := (blk_cell BK127.out 1).trans rfl; have hcz5_2 : w4.cell? ⟨gb127, 2, none⟩ = some (.int .i64 a0_2) := (blk_cell BK127.out 2).trans rfl; have hcz5_3 : w4.cell? ⟨gb127, 3, none⟩ = some (.int .i64 a0_3) := (blk_cell BK127.out 3).trans rfl; have hcz5_4 : w4.cell? ⟨gb127, 4, none⟩ = some (.int .i64 a0_4) := (blk_cell BK127.out 4).trans rfl; have hcz5_5 : w4.cell? ⟨gb127, 5, none⟩ = some (.int .i64 a0_5) := (blk_cell BK127.out 5).trans rfl; have hfz5_0 := blk_frozen BK127.out 0; have hfz5_1 := blk_frozen BK127.out 1; have hfz5_2 := blk_frozen BK127.out 2; have hfz5_3 := blk_frozen BK127.out 3; have hfz5_4 := blk_frozen BK127.out 4; have hfz5_5 := blk_frozen BK127.out 5))
  go_ret
  exact ⟨by first | rfl | (simp [errW_none, errW_some] <;> rfl) | (simp [*, errW_none, errW_some] <;> rfl), by repeat (with_reducible first | exact HB.out | apply pw_below_drewN | apply below_drew1 | refine below_set ?_ GE127.out)⟩
 ·rw [if_neg c3] at H
  have c3b0 : (a0_2 == 1) = false := beq_eq_false_iff_ne.mpr c3
  have c3b1 : (a0_2 != 1) = true := bne_iff_ne.mpr c3
  by_cases c6 : a0_2 = 4
  ·rw [if_pos c6] at H
   have c6b0 : (a0_2 == 4) = true := beq_iff_eq.mpr c6
   have c6b1 : (a0_2 != 4) = false := bne_eq_false_iff_eq.mpr c6
   clear c6
   obtain rfl := Option.some.inj H
   go_enter Try.func66, Try.ntmps66
   go_wp2_with (first | ((with_reducible refine gate_dst (N := 2) rfl ?_); refine box_event ?hg (N := 2) ?hd (cs := #[.int .i64 a0_0, .int .i64 a0_1, .int .i64 a0_2, .int .i64 a0_3, .int .i64 a0_4, .int .i64 a0_5]) (t := 87) ?hr ?_; (case hd => rfl); (case hg => rfl); (case hr => first | (go_simp; done) | (go_simp; rfl)); intro gb127 hg w7 hbox hb; have BK127 := Aside0.mk (hbox); have GW127 := Aside0.mk ((by rw [hg]; exact (below_size HB.out) : w.heap.size ≤ gb127)); have GE127 := Aside0.mk ((by rw [hg]; exact (below_size HB.out) : w.heap.size ≤ gb127)); replace HB := Aside0.mk (below_step HB.out hb); clear hb hbox hg; have hcz8_0 : w7.cell? ⟨gb127, 0, none⟩ = some (.int .i64 a0_0) := (blk_cell BK127.out 0).trans rfl; have hcz8_1 : w7.cell? ⟨gb127, 1, none⟩ = some (.int .i64 a0_1) := (blk_cell BK127.out 1).trans rfl; have hcz8_2 : w7.cell? ⟨gb127, 2, none⟩ = some (.int .i64 a0_2) := (blk_cell BK127.out 2).trans rfl; have hcz8_3 : w7.cell? ⟨gb127, 3, none⟩ = some (.int .i64 a0_3) := (blk_cell BK127.out 3).trans rfl; have hcz8_4 : w7.cell? ⟨gb127, 4, none⟩ = some (.int .i64 a0_4) := (blk_cell BK127.out 4).trans rfl; have hcz8_5 : w7.cell? ⟨gb127, 5, none⟩ = some (.int .i64 a0_5) := (blk_cell BK127.out 5).trans rfl; have hfz8_0 := blk_frozen BK127.out 0; have hfz8_1 := blk_frozen BK127.out 1; have hfz8_2 := blk_frozen BK127.out 2; have hfz8_3 := blk_frozen BK127.out 3; have hfz8_4 := blk_frozen BK127.out 4; have hfz8_5 := blk_frozen BK127.out 5))
   go_ret
   exact ⟨by first | rfl | (simp [errW_none, errW_some] <;> rfl) | (simp [*, errW_none, errW_some] <;> rfl), by repeat (with_reducible first | exact HB.out | apply pw_below_drewN | apply below_drew1 | refine below_set ?_ GE127.out)⟩
  ·rw [if_neg c6] at H
   have c6b0 : (a0_2 == 4) = false := beq_eq_false_iff_ne.mpr c6
   have c6b1 : (a0_2 != 4) = true := bne_iff_ne.mpr c6
   obtain rfl := Option.some.inj H
   go_enter Try.func66, Try.ntmps66
   go_wp2_with (first | ((with_reducible refine gate_dst (N := 2) rfl ?_); refine box_event ?hg (N := 2) ?hd (cs := #[.int .i64 a0_0, .int .i64 a0_1, .int .i64 a0_2, .int .i64 a0_3, .int .i64 a0_4, .int .i64 a0_5]) (t := 87) ?hr ?_; (case hd => rfl); (case hg => rfl); (case hr => first | (go_simp; done) | (go_simp; rfl)); intro gb127 hg w9 hbox hb; have BK127 := Aside0.mk (hbox); have GW127 := Aside0.mk ((by rw [hg]; exact (below_size HB.out) : w.heap.size ≤ gb127)); have GE127 := Aside0.mk ((by rw [hg]; exact (below_size HB.out) : w.heap.size ≤ gb127)); replace HB := Aside0.mk (below_step HB.out hb); clear hb hbox hg; have hcz10_0 : w9.cell? ⟨gb127, 0, none⟩ = some (.int .i64 a0_0) := (blk_cell BK127.out 0).trans rfl; have hcz10_1 : w9.cell? ⟨gb127, 1, none⟩ = some (.int .i64 a0_1) := (blk_cell BK127.out 1).trans rfl; have hcz10_2 : w9.cell? ⟨gb127, 2, none⟩ = some (.int .i64 a0_2) := (blk_cell BK127.out 2).trans rfl; have hcz10_3 : w9.cell? ⟨gb127, 3, none⟩ = some (.int .i64 a0_3) := (blk_cell BK127.out 3).trans rfl; have hcz10_4 : w9.cell? ⟨gb127, 4, none⟩ = some (.int .i64 a0_4) := (blk_cell BK127.out 4).trans rfl; have hcz10_5 : w9.cell? ⟨gb127, 5, none⟩ = some (.int .i64 a0_5) := (blk_cell BK127.out 5).trans rfl; have hfz10_0 := blk_frozen BK127.out 0; have hfz10_1 := blk_frozen BK127.out 1; have hfz10_2 := blk_frozen BK127.out 2; have hfz10_3 := blk_frozen BK127.out 3; have hfz10_4 := blk_frozen BK127.out 4; have hfz10_5 := blk_frozen BK127.out 5))
   go_ret
   exact ⟨by first | rfl | (simp [errW_none, errW_some] <;> rfl) | (simp [*, errW_none, errW_some] <;> rfl), by repeat (with_reducible first | exact HB.out | apply pw_below_drewN | apply below_drew1 | refine below_set ?_ GE127.out)⟩

/-! ### life_is: function 102 -/
def life_is.f (a0 : Int) : Option (Bool) := if a0 ≥ 0 then (some (decide (a0 < 5))) else (some false)
set_option maxHeartbeats 8000000 in
set_option maxRecDepth 100000 in
theorem life_is.calls (a0 : Int) (r : Bool) (w : World) (h : life_is.f a0 = some r) :
 Calls Try.prog 102 #[.int .i64 a0] w fun e w' => e = .returned (.bool r) ∧ Drawn0 w w' := by
 have H : (if a0 ≥ 0 then (some (decide (a0 < 5))) else (some false)) = some r := h
 clear h
 by_cases c2 : a0 ≥ 0
 ·rw [if_pos c2] at H
  have c2b0 : decide (0 ≤ a0) = true := decide_eq_true c2
  clear c2
  obtain rfl := Option.some.inj H
  go_enter Try.func102, Try.ntmps102
  go_wp2
  go_ret
  exact ⟨by first | rfl | (simp; done) | (simp [*]; done), by repeat (first | exact Drawn0.refl _ | apply Drawn0.step)⟩
 ·rw [if_neg c2] at H
  have c2b0 : decide (0 ≤ a0) = false := decide_eq_false c2
  clear c2
  obtain rfl := Option.some.inj H
  go_enter Try.func102, Try.ntmps102
  go_wp2
  go_ret
  exact ⟨by first | rfl | (simp; done) | (simp [*]; done), by repeat (first | exact Drawn0.refl _ | apply Drawn0.step)⟩

/-! ### life_table: function 103 -/
def life_rows : List (List Int) := [[-1, 1, -1, -1, -1, -1, -1], [-1, 1, 2, 3, 4, 0, -1], [-1, 2, -1, 3, 4, 0, -1], [-1, 1, -1, -1, 4, 0, -1], [-1, 4, -1, 3, -1, 0, 1]]
def life_tab (p d : Int) : Int := (life_rows.getD p.toNat []).getD d.toNat (-1)
def life_row (p : Int) : Value := .agg ((life_rows.getD p.toNat []).map (Value.int .i64)).toArray
def life_all : Value := .agg #[.int .i64 (-1), .int .i64 1, .int .i64 (-1), .int .i64 (-1), .int .i64 (-1), .int .i64 (-1), .int .i64 (-1), .int .i64 (-1), .int .i64 1, .int .i64 2, .int .i64 3, .int .i64 4, .int .i64 0, .int .i64 (-1), .int .i64 (-1), .int .i64 2, .int .i64 (-1), .int .i64 3, .int .i64 4, .int .i64 0, .int .i64 (-1), .int .i64 (-1), .int .i64 1, .int .i64 (-1), .int .i64 (-1), .int .i64 4, .int .i64 0, .int .i64 (-1), .int .i64 (-1), .int .i64 4, .int .i64 (-1), .int .i64 3, .int .i64 (-1), .int .i64 0, .int .i64 1]
theorem life_idx (p : Int) (h0 : 0 ≤ p) (h1 : p < 5) (w : World) : (Instr.index 126 life_all (.int .i64 p)).run Try.prog w = .ok (life_row p) w := by
 have hc : p = 0 ∨ p = 1 ∨ p = 2 ∨ p = 3 ∨ p = 4 := by omega
 clear h0 h1
 rcases hc with rfl | rfl | rfl | rfl | rfl <;> (show (Instr.index _ _ _).run _ _ = _; kernel_rfl)
theorem life_idx2 (p d : Int) (h0 : 0 ≤ p) (h1 : p < 5) (h2 : 1 ≤ d) (h3 : d < 7) (w : World) : (Instr.index 125 (life_row p) (.int .i64 d)).run Try.prog w = .ok (.int .i64 (life_tab p d)) w := by
 have hc : p = 0 ∨ p = 1 ∨ p = 2 ∨ p = 3 ∨ p = 4 := by omega
 have hd : d = 1 ∨ d = 2 ∨ d = 3 ∨ d = 4 ∨ d = 5 ∨ d = 6 := by omega
 rcases hc with rfl | rfl | rfl | rfl | rfl <;> rcases hd with rfl | rfl | rfl | rfl | rfl | rfl <;> (show (Instr.index _ _ _).run _ _ = _; kernel_rfl)
def life_zero : Array Value := #[.int .i64 0, .int .i64 0, .int .i64 0, .int .i64 0, .int .i64 0, .int .i64 0, .int .i64 0, .int .i64 0, .int .i64 0, .int .i64 0, .int .i64 0, .int .i64 0, .int .i64 0, .int .i64 0, .int .i64 0, .int .i64 0, .int .i64 0, .int .i64 0, .int .i64 0, .int .i64 0, .int .i64 0, .int .i64 0, .int .i64 0, .int .i64 0, .int .i64 0, .int .i64 0, .int .i64 0, .int .i64 0, .int .i64 0, .int .i64 0, .int .i64 0, .int .i64 0, .int .i64 0, .int .i64 0, .int .i64 0]
set_option maxHeartbeats 8000000 in
set_option maxRecDepth 100000 in
theorem life_table.calls (w : World) :
 Calls Try.prog 103 #[] w fun e w' => e = .returned life_all ∧ Below w.heap.size w w' := by
 go_enter Try.func103, Try.ntmps103
 go_wp2_with (refine wpList_store_row rfl 126 _ _ rfl w.heap.size life_all.cells rfl rfl 126 life_zero (heap_alloc_last w _) (by kernel_rfl) (by kernel_rfl) (by kernel_rfl) ?_)
 rw [World.setRow_alloc_new]
 go_wp2
 exact bodyPost_ret (v := life_all) (results_cell_row rfl _ _ w.heap.size 126 life_all.cells (0, 0) _ rfl (heap_alloc_last w _) Try.underlying126 rfl (by kernel_rfl)) rfl ⟨rfl, (Below.refl _ _).alloc (Nat.le_refl _) _⟩

/-! ### life_Next: function 95 -/
def life_Next.f (a0 : Int) (a1 : Int) : Option (Int × Bool) := if 0 ≤ a0 then if a0 < 5 then if a1 < 1 then some (0, false) else if a1 ≥ 7 then some (0, false) else if life_tab a0 a1 = -1 then some (0, false) else some (life_tab a0 a1, true) else some (0, false) else some (0, false)
theorem life_is_any (a0 : Int) (w : World) : Calls Try.prog 102 #[.int .i64 a0] w fun e w' => e = .returned (.bool (decide (0 ≤ a0 ∧ a0 < 5))) ∧ Drawn0 w w' := by
 refine life_is.calls a0 _ w ?_
 unfold life_is.f
 by_cases h : 0 ≤ a0
 ·rw [if_pos h]; simp [h]
 ·rw [if_neg h]; simp [h]
set_option maxHeartbeats 8000000 in
set_option maxRecDepth 100000 in
theorem life_Next.calls (a0 : Int) (a1 : Int) (r1 : Int) (r2 : Bool) (w : World) (h : life_Next.f a0 a1 = some (r1, r2)) :
 Calls Try.prog 95 #[.int .i64 a0, .int .i64 a1] w fun e w' => e = .returned (.tuple #[.int .i64 r1, .bool r2]) ∧ Below w.heap.size w w' := by
 unfold life_Next.f at h
 by_cases hp : 0 ≤ a0 ∧ a0 < 5
 ·rw [if_pos hp.1, if_pos hp.2] at h
  have hi : ∀ w, Calls Try.prog 102 #[.int .i64 a0] w fun e w' => e = .returned (.bool true) ∧ Drawn0 w w' := fun w => by
   have := life_is_any a0 w; rw [decide_eq_true hp] at this; exact this
  have Hi := Aside0.mk hi; clear hi
  by_cases c1 : a1 < 1
  ·rw [if_pos c1] at h; cases h
   have b1 : decide (a1 < 1) = true := decide_eq_true c1
   clear c1 hp
   go_enter Try.func95, Try.ntmps95
   go_wp2_with (go_at_call 102; refine (Hi.out _).mono ?_; rintro e w' ⟨rfl, ⟨n, rfl⟩⟩)
   go_ret2
   exact ⟨rfl, by repeat (first | exact Below.refl _ _ | apply pw_below_drewN)⟩
  ·rw [if_neg c1] at h
   have b1 : decide (a1 < 1) = false := decide_eq_false c1
   by_cases c2 : a1 ≥ 7
   ·rw [if_pos c2] at h; cases h
    have b2 : decide (7 ≤ a1) = true := decide_eq_true c2
    clear c1 c2 hp
    go_enter Try.func95, Try.ntmps95
    go_wp2_with (go_at_call 102; refine (Hi.out _).mono ?_; rintro e w' ⟨rfl, ⟨n, rfl⟩⟩)
    go_ret2
    exact ⟨rfl, by repeat (first | exact Below.refl _ _ | apply pw_below_drewN)⟩
   ·rw [if_neg c2] at h
    have b2 : decide (7 ≤ a1) = false := decide_eq_false c2
    have x1 := life_idx a0 hp.1 hp.2
    have x2 := life_idx2 a0 a1 hp.1 hp.2 (by omega) (by omega)
    have ht := fun w => life_table.calls w
    have Ht := Aside0.mk ht; clear ht
    generalize life_row a0 = row at x1 x2
    generalize life_tab a0 a1 = t at x2 h
    by_cases c3 : t = -1
    ·rw [if_pos c3] at h; cases h
     have b3 : (t != -1) = false := by simp [c3]
     subst c3
     clear c1 c2 hp
     go_enter Try.func95, Try.ntmps95
     go_wp2_with (first | (go_at_call 102; refine (Hi.out _).mono ?_; rintro e w' ⟨rfl, ⟨n, rfl⟩⟩) | (go_at_call 103; refine (Ht.out _).mono ?_; rintro e w' ⟨rfl, hb⟩))
     go_ret2
     exact ⟨rfl, below_then (pw_below_drewN (Below.refl _ _) _) (Nat.le_refl _) hb⟩
    ·rw [if_neg c3] at h; cases h
     have b3 : (r1 != -1) = true := by simp [c3]
     clear c1 c2 c3 hp
     go_enter Try.func95, Try.ntmps95
     go_wp2_with (first | (go_at_call 102; refine (Hi.out _).mono ?_; rintro e w' ⟨rfl, ⟨n, rfl⟩⟩) | (go_at_call 103; refine (Ht.out _).mono ?_; rintro e w' ⟨rfl, hb⟩))
     go_ret2
     exact ⟨rfl, below_then (pw_below_drewN (Below.refl _ _) _) (Nat.le_refl _) hb⟩
 ·have h' : (if 0 ≤ a0 then if a0 < 5 then if a1 < 1 then some ((0 : Int), false) else if a1 ≥ 7 then some (0, false) else if life_tab a0 a1 = -1 then some (0, false) else some (life_tab a0 a1, true) else some (0, false) else some (0, false)) = some (0, false) := by
   by_cases q : 0 ≤ a0
   ·rw [if_pos q, if_neg (fun q2 => hp ⟨q, q2⟩)]
   ·rw [if_neg q]
  rw [h'] at h; cases h
  have hi : ∀ w, Calls Try.prog 102 #[.int .i64 a0] w fun e w' => e = .returned (.bool false) ∧ Drawn0 w w' := fun w => by
   have := life_is_any a0 w; rw [decide_eq_false hp] at this; exact this
  have Hi := Aside0.mk hi; clear hi hp h'
  go_enter Try.func95, Try.ntmps95
  go_wp2_with (go_at_call 102; refine (Hi.out _).mono ?_; rintro e w' ⟨rfl, ⟨n, rfl⟩⟩)
  go_ret2
  exact ⟨rfl, by repeat (first | exact Below.refl _ _ | apply pw_below_drewN)⟩

/-! ### alarm_clock_turned: function 90 -/
def alarm_clock_turned.f (a0_0 : Int) (a0_1 : Int) (a0_2 : Int) (a0_3 : Int) (a0_4 : Int) (a0_5 : Int) (a1 : Int) (a2 : Int) (a3 : Int) : Option (Int × Int × Int × Int × Int × Int) := (life_Next.f a0_2 a1).bind fun bt130 => (some (a0_0, a0_1, bt130.1, a0_3, a0_4, wrap64 (a2 + a3)))
set_option maxHeartbeats 8000000 in
set_option maxRecDepth 100000 in
theorem alarm_clock_turned.calls (a0_0 : Int) (a0_1 : Int) (a0_2 : Int) (a0_3 : Int) (a0_4 : Int) (a0_5 : Int) (a1 : Int) (a2 : Int) (a3 : Int) (r1 : Int) (r2 : Int) (r3 : Int) (r4 : Int) (r5 : Int) (r6 : Int) (w : World) (h : alarm_clock_turned.f a0_0 a0_1 a0_2 a0_3 a0_4 a0_5 a1 a2 a3 = some (r1, r2, r3, r4, r5, r6)) :
 Calls Try.prog 90 #[.agg #[.int .i64 a0_0, .int .i64 a0_1, .int .i64 a0_2, .int .i64 a0_3, .int .i64 a0_4, .int .i64 a0_5], .int .i64 a1, .int .i64 a2, .int .i64 a3] w fun e w' => e = .returned (.agg #[.int .i64 r1, .int .i64 r2, .int .i64 r3, .int .i64 r4, .int .i64 r5, .int .i64 r6]) ∧ Below w.heap.size w w' := by
 have hu85 := Try.underlying85
 have HB := Aside0.mk (Below.refl w.heap.size w)
 have H : ((life_Next.f a0_2 a1).bind fun bt130 => (some (a0_0, a0_1, bt130.1, a0_3, a0_4, wrap64 (a2 + a3)))) = some (r1, r2, r3, r4, r5, r6) := h
 clear h
 replace H := Option.bind_eq_some_iff.mp H
 obtain ⟨⟨t130, t131⟩, A50, H⟩ := H
 try dsimp only at H
 have A5 := Aside0.mk A50
 clear A50
 simp only [Option.some.injEq, Prod.mk.injEq] at H
 obtain ⟨rfl, rfl, rfl, rfl, rfl, rfl⟩ := H
 go_enter Try.func90, Try.ntmps90
 go_wp2_with (first | ((with_reducible refine gate_dst (N := 4) rfl ?_); refine box_event ?hg (N := 4) ?hd (cs := #[.int .i64 a0_0, .int .i64 a0_1, .int .i64 a0_2, .int .i64 a0_3, .int .i64 a0_4, .int .i64 a0_5]) (t := 85) ?hr ?_; (case hd => rfl); (case hg => rfl); (case hr => first | (go_simp; done) | (go_simp; rfl)); intro gb128 hg w6 hbox hb; have BK128 := Aside0.mk (hbox); have GW128 := Aside0.mk ((by rw [hg]; exact (below_size HB.out) : w.heap.size ≤ gb128)); have GE128 := Aside0.mk ((by rw [hg]; exact (below_size HB.out) : w.heap.size ≤ gb128)); replace HB := Aside0.mk (below_step HB.out hb); clear hb hbox hg) | ((with_reducible refine gate_dst (N := 8) rfl ?_); refine box_event ?hg (N := 8) ?hd (cs := #[.int .i64 0, .int .i64 0, .int .i64 0, .int .i64 0, .int .i64 0, .int .i64 0]) (t := 85) ?hr ?_; (case hd => rfl); (case hg => rfl); (case hr => first | (go_simp; done) | (go_simp; rfl)); intro gb129 hg w7 hbox hb; have BK129 := Aside0.mk (hbox); have GW129 := Aside0.mk ((by rw [hg]; exact (below_size (by repeat (with_reducible first | exact HB.out | apply pw_below_drewN | apply below_drew1 | refine below_set ?_ GE128.out))) : w.heap.size ≤ gb129)); have GE129 := Aside0.mk ((by rw [hg]; exact (below_size (by repeat (with_reducible first | exact HB.out | apply pw_below_drewN | apply below_drew1 | refine below_set ?_ GE128.out))) : w.heap.size ≤ gb129)); replace HB := Aside0.mk (below_step (by repeat (with_reducible first | exact HB.out | apply pw_below_drewN | apply below_drew1 | refine below_set ?_ GE128.out)) hb); have NB128_129 := Aside0.mk ((by rw [hg]; exact Nat.ne_of_lt (blk_lt BK128.out) : gb128 ≠ gb129)); have NB129_128 := Aside0.mk ((by rw [hg]; exact Nat.ne_of_gt (blk_lt BK128.out) : gb129 ≠ gb128)); replace BK128 := bl_ BK128 hb; clear hb hbox hg; have hnb8 := NB128_129.out; have hnc8 := NB129_128.out; have hcz9_0 : w7.cell? ⟨gb128, 0, none⟩ = some (.int .i64 a0_0) := (blk_cell BK128.out 0).trans rfl; have hcz9_1 : w7.cell? ⟨gb128, 1, none⟩ = some (.int .i64 a0_1) := (blk_cell BK128.out 1).trans rfl; have hcz9_2 : w7.cell? ⟨gb128, 2, none⟩ = some (.int .i64 a0_2) := (blk_cell BK128.out 2).trans rfl; have hcz9_3 : w7.cell? ⟨gb128, 3, none⟩ = some (.int .i64 a0_3) := (blk_cell BK128.out 3).trans rfl; have hcz9_4 : w7.cell? ⟨gb128, 4, none⟩ = some (.int .i64 a0_4) := (blk_cell BK128.out 4).trans rfl; have hcz9_5 : w7.cell? ⟨gb128, 5, none⟩ = some (.int .i64 a0_5) := (blk_cell BK128.out 5).trans rfl; have hfz9_0 := blk_frozen BK128.out 0; have hfz9_1 := blk_frozen BK128.out 1; have hfz9_2 := blk_frozen BK128.out 2; have hfz9_3 := blk_frozen BK128.out 3; have hfz9_4 := blk_frozen BK128.out 4; have hfz9_5 := blk_frozen BK128.out 5) | ((with_reducible refine gate_callee (f := 95) rfl ?_); refine goesL_ (some 14) rfl rfl Try.func95 (by kernel_rfl) rfl #[.int .i64 a0_2, .int .i64 a1] rfl (by (try simp only [List.map_toArray, List.map_cons, List.map_nil]); first | done | rfl | (simp only [List.length_drop, List.length_take]; rfl)) ?_; (with_reducible refine (life_Next.calls a0_2 a1 t130 t131 _ A5.out).mono ?_); rintro e w10 ⟨rfl, hb⟩; refine ⟨_, rfl, ?_⟩; replace BK128 := bl_ BK128 hb; replace BK129 := bl_ BK129 hb; replace HB := Aside0.mk (below_step (by repeat (with_reducible first | exact HB.out | apply pw_below_drewN | apply below_drew1 | refine below_set ?_ (Aside0.out (by assumption)))) hb); (try clear hb); (try clear hb2); (try clear hk); (try clear hi); have hcz11_0 : w10.cell? ⟨gb128, 0, none⟩ = some (.int .i64 a0_0) := (blk_cell BK128.out 0).trans rfl; have hcz11_1 : w10.cell? ⟨gb128, 1, none⟩ = some (.int .i64 a0_1) := (blk_cell BK128.out 1).trans rfl; have hcz11_2 : w10.cell? ⟨gb128, 2, none⟩ = some (.int .i64 a0_2) := (blk_cell BK128.out 2).trans rfl; have hcz11_3 : w10.cell? ⟨gb128, 3, none⟩ = some (.int .i64 a0_3) := (blk_cell BK128.out 3).trans rfl; have hcz11_4 : w10.cell? ⟨gb128, 4, none⟩ = some (.int .i64 a0_4) := (blk_cell BK128.out 4).trans rfl; have hcz11_5 : w10.cell? ⟨gb128, 5, none⟩ = some (.int .i64 a0_5) := (blk_cell BK128.out 5).trans rfl; have hfz11_0 := blk_frozen BK128.out 0; have hfz11_1 := blk_frozen BK128.out 1; have hfz11_2 := blk_frozen BK128.out 2; have hfz11_3 := blk_frozen BK128.out 3; have hfz11_4 := blk_frozen BK128.out 4; have hfz11_5 := blk_frozen BK128.out 5; have hcz12_0 : w10.cell? ⟨gb129, 0, none⟩ = some (.int .i64 0) := (blk_cell BK129.out 0).trans rfl; have hcz12_1 : w10.cell? ⟨gb129, 1, none⟩ = some (.int .i64 0) := (blk_cell BK129.out 1).trans rfl; have hcz12_2 : w10.cell? ⟨gb129, 2, none⟩ = some (.int .i64 0) := (blk_cell BK129.out 2).trans rfl; have hcz12_3 : w10.cell? ⟨gb129, 3, none⟩ = some (.int .i64 0) := (blk_cell BK129.out 3).trans rfl; have hcz12_4 : w10.cell? ⟨gb129, 4, none⟩ = some (.int .i64 0) := (blk_cell BK129.out 4).trans rfl; have hcz12_5 : w10.cell? ⟨gb129, 5, none⟩ = some (.int .i64 0) := (blk_cell BK129.out 5).trans rfl; have hfz12_0 := blk_frozen BK129.out 0; have hfz12_1 := blk_frozen BK129.out 1; have hfz12_2 := blk_frozen BK129.out 2; have hfz12_3 := blk_frozen BK129.out 3; have hfz12_4 := blk_frozen BK129.out 4; have hfz12_5 := blk_frozen BK129.out 5))
 refine bodyPost_ret (results_cell_row rfl _ _ gb129 85 #[.int .i64 a0_0, .int .i64 a0_1, .int .i64 t130, .int .i64 a0_3, .int .i64 a0_4, .int .i64 (wrap64 (a2 + a3))] (0, 0) _ rfl (by refine blk_put (cs := #[.int .i64 a0_0, .int .i64 a0_1, .int .i64 t130, .int .i64 a0_3, .int .i64 a0_4, .int .i64 0]) ?_ 5 _ rfl; refine blk_put (cs := #[.int .i64 a0_0, .int .i64 a0_1, .int .i64 t130, .int .i64 a0_3, .int .i64 0, .int .i64 0]) ?_ 4 _ rfl; refine blk_put (cs := #[.int .i64 a0_0, .int .i64 a0_1, .int .i64 t130, .int .i64 0, .int .i64 0, .int .i64 0]) ?_ 3 _ rfl; refine blk_put (cs := #[.int .i64 a0_0, .int .i64 a0_1, .int .i64 0, .int .i64 0, .int .i64 0, .int .i64 0]) ?_ 2 _ rfl; refine blk_put (cs := #[.int .i64 a0_0, .int .i64 0, .int .i64 0, .int .i64 0, .int .i64 0, .int .i64 0]) ?_ 1 _ rfl; refine blk_put (cs := #[.int .i64 0, .int .i64 0, .int .i64 0, .int .i64 0, .int .i64 0, .int .i64 0]) ?_ 0 _ rfl; refine blk_far ?_ NB129_128.out _; refine blk_far ?_ NB129_128.out _; exact BK129.out) Try.underlying85 rfl (by kernel_rfl)) rfl ?_
 exact ⟨by first | rfl | (simp [errW_none, errW_some] <;> rfl) | (simp [*, errW_none, errW_some] <;> rfl), by repeat (with_reducible first | exact HB.out | apply pw_below_drewN | apply below_drew1 | refine below_set ?_ (Aside0.out (by assumption)))⟩

end Go.Proofs.Ytcfpbmdndapeaaa.F
