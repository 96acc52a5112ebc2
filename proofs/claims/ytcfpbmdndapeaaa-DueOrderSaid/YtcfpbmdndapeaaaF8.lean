-- Written by a program of this session (xprint.py), out of the translation and of contracts proved by hand.
import Derived.Test.YtcfpbmdndapeaaaF0
import Derived.Test.YtcfpbmdndapeaaaF1
import Derived.Test.YtcfpbmdndapeaaaF6
import Derived.Test.YtcfpbmdndapeaaaF7
namespace Go.Proofs.Ytcfpbmdndapeaaa.F
open Go.RowKit Go.Proofs.YtcfpbmdndapeaaaV.PrintWords Go.Proofs.YtcfpbmdndapeaaaV.PrintLast Go.Proofs.YtcfpbmdndapeaaaV.PrintMore
attribute [local go_sem] max2_int min2_int max_two min_two max_three min_three max_four min_four   -- for this text's walks alone
set_option linter.unusedVariables false
set_option linter.unusedSimpArgs false

attribute [local go_sem high] eqA26
/-! ### board_Is: function 32 -/
def board_Is.f (k : Nat) (a0_0 : Int) (a0_1 : Int) (l0_2 : List (S28)) : Option (Bool) := if a0_0 ≥ 1 then (if a0_0 ≤ 200 then (if a0_1 ≥ 0 then (if a0_1 ≤ 1000000000 then (if (l0_2.length : Int) ≤ a0_0 then ((board_open.f a0_0 a0_1 l0_2).bind fun bt164 => ((board_alarms_rise.f k bt164.1 a0_1).bind fun t172 => (some t172))) else (some false)) else (some false)) else (some false)) else (some false)) else (some false)
theorem board_Is.mono : ∀ a0 a1 a2 k, LeO (board_Is.f k a0 a1 a2) (board_Is.f (k + 1) a0 a1 a2) := by
 intro a0 a1 a2 k
 unfold board_Is.f
 repeat' first
   | (with_reducible exact board_alarms_rise.mono _ _ _)
   | (with_reducible exact LeO.refl _)
   | (with_reducible exact LeO.none _)
   | (with_reducible refine LeO.ite ?_ ?_)
   | (with_reducible refine LeO.bind ?_ (fun _ => ?_))
   | exact board_alarms_rise.mono _ _ _
   | exact LeO.none _
   | refine LeO.ite ?_ ?_
   | refine LeO.bind ?_ (fun _ => ?_)
def board_Is.T1 : Bool × List (List Nat × List Nat) := (true, [([], []), ([0], [0]), ([1], [1]), ([2], [2]), ([3], [3]), ([4, 3], [3, 4]), ([5, 3], [3, 5]), ([3, 6], [3, 6]), ([7, 3], [7]), ([8], [8]), ([9, 8], [8, 9]), ([10, 8], [8, 10]), ([8, 11], [8, 11]), ([12, 8], [12]), ([13], [13]), ([14, 13], [13, 14]), ([15, 13], [13, 15]), ([13, 16], [13, 16]), ([17, 13], [17]), ([18], [18]), ([19, 18], [18, 19]), ([20, 18], [18, 20]), ([18], [18]), ([22, 18], [18, 22]), ([21, 23, 18], [18, 21, 23]), ([18, 24], [18, 24]), ([25, 18], [25]), ([26], [26]), ([27, 26, 26], [26, 27]), ([28, 26], [26, 28]), ([26], [26]), ([30, 26], [26, 30]), ([29, 31, 28, 26], [26, 29, 31]), ([26, 32], [26, 32]), ([33, 32, 0, 1, 2, 3, 4, 5, 6, 7, 8, 9, 10, 11, 12, 13, 14, 15, 16, 17, 18, 19, 20, 21, 22, 23, 24, 25, 26, 27, 28, 29, 30, 31, 32, 33], [33])])
def board_Is.B1 : List Nat := [0, 1, 3, 7, 15, 31, 63, 127, 255, 511, 1023, 2047, 4095, 8191, 16383, 32767, 65535, 131071, 262143, 524287, 1048575, 2097151, 524287, 4718591, 16777215, 33554431, 67108863, 134217727, 268435455, 536870911, 134217727, 1207959551, 4294967295, 8589934591, 17179869183]
theorem board_Is.tab1 : rtab .any (opsOf Try.f32 1) = board_Is.T1 := by kernel_rfl
theorem board_Is.bits1 : waitsOk board_Is.T1.2 board_Is.B1 = true := by kernel_rfl
set_option maxHeartbeats 8000000 in
set_option maxRecDepth 100000 in
theorem board_Is.calls (k : Nat) (a0_0 : Int) (a0_1 : Int) (A0_2 : Option Addr) (c0_2 : Nat) (l0_2 : List (S28)) (r : Bool) (w : World) (hr0_2 : Kd.C k28 w A0_2 l0_2.length l0_2) (hc0_2 : l0_2.length ≤ c0_2) (h : board_Is.f k a0_0 a0_1 l0_2 = some r) :
  Calls Try.prog 32 #[.agg #[.int .i64 a0_0, .int .i64 a0_1, .slice A0_2 l0_2.length c0_2]] w fun e w' => e = .returned (.bool r) ∧ Below w.heap.size w w' := by
 have hu24 := Try.underlying24
 have HR0_2 := Aside0.mk hr0_2
 have HC0_2 := Aside0.mk hc0_2
 clear hr0_2 hc0_2
 have HB := Aside0.mk (Below.refl w.heap.size w)
 have H : (if a0_0 ≥ 1 then (if a0_0 ≤ 200 then (if a0_1 ≥ 0 then (if a0_1 ≤ 1000000000 then (if (l0_2.length : Int) ≤ a0_0 then ((board_open.f a0_0 a0_1 l0_2).bind fun bt164 => ((board_alarms_rise.f k bt164.1 a0_1).bind fun t172 => (some t172))) else (some false)) else (some false)) else (some false)) else (some false)) else (some false)) = some r := h
 clear h
 by_cases c2 : a0_0 ≥ 1
 ·rw [if_pos c2] at H
  have c2b0 : decide (1 ≤ a0_0) = true := decide_eq_true c2
  clear c2
  by_cases c3 : a0_0 ≤ 200
  ·rw [if_pos c3] at H
   have c3b0 : decide (a0_0 ≤ 200) = true := decide_eq_true c3
   clear c3
   by_cases c4 : a0_1 ≥ 0
   ·rw [if_pos c4] at H
    have c4b0 : decide (0 ≤ a0_1) = true := decide_eq_true c4
    clear c4
    by_cases c5 : a0_1 ≤ 1000000000
    ·rw [if_pos c5] at H
     have c5b0 : decide (a0_1 ≤ 1000000000) = true := decide_eq_true c5
     clear c5
     by_cases c6 : (l0_2.length : Int) ≤ a0_0
     ·rw [if_pos c6] at H
      have c6b0 : decide ((l0_2.length : Int) ≤ a0_0) = true := decide_eq_true c6
      clear c6
      replace H := Option.bind_eq_some_iff.mp H
      obtain ⟨⟨t164, t167, t168, t169⟩, A70, H⟩ := H
      try dsimp only at H
      have A7 := Aside0.mk A70
      clear A70
      replace H := Option.bind_eq_some_iff.mp H
      obtain ⟨t172, A80, H⟩ := H
      try dsimp only at H
      have A8 := Aside0.mk A80
      clear A80
      obtain rfl := Option.some.inj H
      go_enter Try.func32, Try.ntmps32
      try go_wp2_with (first | ((with_reducible refine gate_dst (N := 1) rfl ?_); (try (refine gate_guard (by rfl) ?_; dsimp only)); refine box_event ?hg (N := 1) ?hd (cs := #[.int .i64 a0_0, .int .i64 a0_1, .slice A0_2 l0_2.length c0_2]) (t := 24) ?hr ?_; (case hd => rfl); (case hg => rfl); (case hr => first | (go_simp; done) | (go_simp; rfl)); intro gb163 hg w9 hbox hb; have BK163 := Aside0.mk (hbox); have GW163 := Aside0.mk ((by rw [hg]; exact (below_size HB.out) : w.heap.size ≤ gb163)); have GE163 := Aside0.mk ((by rw [hg]; exact (below_size HB.out) : w.heap.size ≤ gb163)); replace HB := Aside0.mk (below_step HB.out hb); clear hb hbox hg))
      replace BK163 := Aside0.mk (blk_drew BK163.out)
      replace HB := Aside0.mk (below_drew1 HB.out)
      refine start_ (n := 35) (S := fun w' => w'.cell? ⟨gb163, 0, none⟩ = some (.int .i64 a0_0) ∧ w'.cell? ⟨gb163, 1, none⟩ = some (.int .i64 a0_1) ∧ w'.cell? ⟨gb163, 2, none⟩ = some (.slice A0_2 l0_2.length c0_2)) (ds := []) #[false, false, false, false, false, false, false, false, false, false, false, false, false, false, false, false, false, false, false, false, false, false, false, false, false, false, false, false, false, false, false, false, false, false, false] (by kernel_rfl) rfl rfl ⟨(blk_cell BK163.out 0).trans rfl, (blk_cell BK163.out 1).trans rfl, (blk_cell BK163.out 2).trans rfl⟩ (fun hHeld => ?_); refine with_tabW board_Is.tab1 board_Is.bits1 (fun HT_ HW_ => ?_)
      generalize w9.drew = w10 at BK163 HB hHeld ⊢
      have Q_ := Qs.mk (n := 35) [(0, 0, 3, 1), (2, 1, 4, 3), (0, 2, 5, 7), (0, 3, 6, 15), (0, 4, 7, 31), (2, 5, 8, 63), (0, 6, 9, 127), (0, 7, 10, 255), (0, 8, 11, 511), (0, 9, 12, 1023), (2, 10, 13, 2047), (0, 11, 14, 4095), (0, 12, 15, 8191), (0, 13, 16, 16383), (0, 14, 17, 32767), (2, 15, 18, 65535), (0, 16, 19, 131071), (0, 17, 20, 262143), (0, 18, 21, 524287), (0, 19, 22, 1048575), (0, 22, 25, 5242879), (2, 20, 23, 6291455), (0, 21, 24, 8388607), (2, 23, 26, 16777215), (0, 24, 27, 33554431), (0, 25, 28, 67108863), (0, 26, 29, 134217727), (0, 30, 33, 1207959551), (2, 27, 30, 1342177279), (2, 31, 34, 3489660927)]
      iterate 30 (first | (obtain ⟨q_, Q_⟩ := Qs.p Q_; refine pureQ_ q_ (v := ?_) (a' := ?_) rfl rfl (any_of HT_.out (by kernel_rfl)) (fun _ _ _ h => h) (Or.inl ⟨by rfl, ?_⟩) ?_ ?_; rotate_left; (intro w'; go_simp; (first | with_reducible rfl | (unfold Instr.field; simp only [go_sem, run_underlying Try.underlying72]; go_simp; rfl))); rotate_left; (simp only [Act.put, List.setIfInBounds_toArray, List.set_cons_zero, List.set_cons_succ, i64_w, i32_w]; rfl)) | (obtain ⟨q_, Q_⟩ := Qs.t Q_; refine takeQ_ q_ (v := ?_) (a' := ?_) rfl rfl (take_ofW HT_.out HW_.out (by kernel_rfl)) (fun _ _ _ h => h) (Or.inl ⟨by rfl, ?_⟩) hHeld ?_ ?_; rotate_left; (rintro w' ⟨s0, s1, s2⟩; go_simp; (first | with_reducible rfl | (unfold Instr.field; simp only [go_sem, run_underlying Try.underlying72]; go_simp; rfl))); rotate_left; (simp only [Act.put, List.setIfInBounds_toArray, List.set_cons_zero, List.set_cons_succ, i64_w, i32_w]; rfl)))
      clear Q_
      refine one_ (i := 28) (N := some 31) #[true, true, true, true, true, true, true, true, true, true, true, true, true, true, true, true, true, true, true, true, true, true, true, true, true, true, true, true, true, false, true, true, false, false, false] rfl rfl (one_of HT_.out (by kernel_rfl)) (by decide) (fun K hK => ?_)
      refine goes_ Try.func51 (by kernel_rfl) rfl #[.agg #[.int .i64 a0_0, .int .i64 a0_1, .slice A0_2 l0_2.length c0_2]] (by rfl) rfl rfl (by (try simp only [List.map_toArray, List.map_cons, List.map_nil]); first | done | rfl | (simp only [List.length_drop, List.length_take]; rfl)) ?_
      with_reducible refine (board_open.calls a0_0 a0_1 (fun k_ => k_ < w.heap.size) _ _ l0_2 t164 t167 t168 t169 _ ?side1 A7.out).mono ?_
      (case side1 => exact Kd.V_mk HC0_2.out (Kd.F_below (Kd.C_F k28_heap HR0_2.out) (by repeat (with_reducible first | exact HB.out | apply pw_below_drewN | apply below_drew1 | refine below_set ?_ GE163.out))))
      rintro e w11 ⟨v165, v170, rfl, ho0, ho1, hb⟩
      refine ⟨_, rfl, ?_⟩
      have HO166 := Aside0.mk (Kd.V_lower (Kd.V_mono (ok' := fun k_ => k_ ≠ gb163) ho0 (fun k_ hk_ => Or.elim hk_ (fun hs_ => fun e_ => Nat.not_le.2 hs_ (by rw [e_]; exact GW163.out)) (fun hn_ => (Kd.freshB (g := gb163) (o := .cells #[.int .i64 a0_0, .int .i64 a0_1, .slice A0_2 l0_2.length c0_2] 24 (0, 0)) BK163.out k_ hn_)))) (below_size (by repeat (with_reducible first | exact HB.out | apply pw_below_drewN | apply below_drew1 | refine below_set ?_ GE163.out))))
      have HO171 := Aside0.mk (Kd.V_lower (Kd.V_mono (ok' := fun k_ => k_ ≠ gb163) ho1 (fun k_ hk_ => Or.elim hk_ (fun hs_ => fun e_ => Nat.not_le.2 hs_ (by rw [e_]; exact GW163.out)) (fun hn_ => (Kd.freshB (g := gb163) (o := .cells #[.int .i64 a0_0, .int .i64 a0_1, .slice A0_2 l0_2.length c0_2] 24 (0, 0)) BK163.out k_ hn_)))) (below_size (by repeat (with_reducible first | exact HB.out | apply pw_below_drewN | apply below_drew1 | refine below_set ?_ GE163.out))))
      replace BK163 := bl_ BK163 hb
      replace HB := Aside0.mk (below_step (by repeat (with_reducible first | exact HB.out | apply pw_below_drewN | apply below_drew1 | refine below_set ?_ GE163.out)) hb)
      (try clear hb)
      (try clear hb2)
      (try clear hk)
      (try clear hi)
      (try clear ho0)
      (try clear ho1)
      obtain ⟨Ao12, co12, eo12⟩ := Kd.V_slice HO166.out
      (first | subst eo12 | (injection eo12 with f1_ f2_ f3_; have f4_ := f1_.symm; have f5_ := f3_.symm; clear f1_ f2_ f3_; subst f4_; subst f5_))
      refine hK.out _ _ ⟨(blk_cell BK163.out 0).trans rfl, (blk_cell BK163.out 1).trans rfl, (blk_cell BK163.out 2).trans rfl⟩ (fun hHeld => ?_)
      clear hK K
      refine norm_ (a' := ?_) ?_ ?_
      rotate_left
      ·show Act.put _ (some 31) _ = _
       simp only [Act.put, List.setIfInBounds_toArray, List.set_cons_zero, List.set_cons_succ, i64_w, i32_w]
       rfl
      refine pure_ (i := 29) (N := some 32) (v := ?_) (a' := ?_) (dn_ 32 35) rfl rfl (any_of HT_.out (by kernel_rfl)) (fun _ _ _ h => h) (Or.inl ⟨by rfl, ?_⟩) ?_ ?_
      rotate_left
      ·intro w'
       go_simp
       first | with_reducible rfl | (unfold Instr.field; simp only [go_sem, run_underlying Try.underlying72]; go_simp; rfl)
      rotate_left; (simp only [Act.put, List.setIfInBounds_toArray, List.set_cons_zero, List.set_cons_succ, i64_w, i32_w]; rfl)
      refine one_ (i := 32) (N := some 35) (dn_ 33 35) rfl rfl (one_of HT_.out (by kernel_rfl)) (by decide) (fun K hK => ?_)
      refine goes_ Try.func65 (by kernel_rfl) rfl #[.slice Ao12 t164.length co12, .int .i64 a0_1] (by rfl) rfl rfl (by (try simp only [List.map_toArray, List.map_cons, List.map_nil]); first | done | rfl | (simp only [List.length_drop, List.length_take]; rfl)) ?_
      with_reducible refine (board_alarms_rise.calls k _ _ t164 a0_1 t172 _ ?side1 ?side2 A8.out).mono ?_
      (case side1 => repeat (first | exact (Kd.V_reads' HO166.out).2.2 | (with_reducible refine Kd.C_alloc ?_ _) | (with_reducible refine Kd.C_drewN ?_ _) | (with_reducible refine Kd.C_drew ?_)))
      (case side2 => exact (Kd.V_reads' HO166.out).2.1)
      rintro e w13 ⟨rfl, hb⟩
      refine ⟨_, rfl, ?_⟩
      replace HO166 := Aside0.mk (Kd.V_below (HO166.out) hb)
      replace HO171 := Aside0.mk (Kd.V_below (HO171.out) hb)
      replace BK163 := bl_ BK163 hb
      replace HB := Aside0.mk (below_step (by repeat (with_reducible first | exact HB.out | apply pw_below_drewN | apply below_drew1 | refine below_set ?_ GE163.out)) hb)
      (try clear hb)
      (try clear hb2)
      (try clear hk)
      (try clear hi)
      refine hK.out _ _ ⟨(blk_cell BK163.out 0).trans rfl, (blk_cell BK163.out 1).trans rfl, (blk_cell BK163.out 2).trans rfl⟩ (fun hHeld => ?_)
      clear hK K
      refine norm_ (a' := ?_) ?_ ?_
      rotate_left
      ·show Act.put _ (some 35) _ = _
       simp only [Act.put, List.setIfInBounds_toArray, List.set_cons_zero, List.set_cons_succ, i64_w, i32_w]
       rfl
      refine pure_ (i := 33) (N := some 36) (v := ?_) (a' := ?_) (dn_ 34 35) rfl rfl (any_of HT_.out (by kernel_rfl)) (fun _ _ _ h => h) (Or.inl ⟨by rfl, ?_⟩) ?_ ?_
      rotate_left
      ·intro w'
       go_simp
       first | with_reducible rfl | (unfold Instr.field; simp only [go_sem, run_underlying Try.underlying72]; go_simp; rfl)
      rotate_left; (simp only [Act.put, List.setIfInBounds_toArray, List.set_cons_zero, List.set_cons_succ, i64_w, i32_w]; rfl)
      refine pure_ (i := 34) (N := some 2) (v := ?_) (a' := ?_) #[true, true, true, true, true, true, true, true, true, true, true, true, true, true, true, true, true, true, true, true, true, true, true, true, true, true, true, true, true, true, true, true, true, true, true] rfl rfl (any_of HT_.out (by kernel_rfl)) (fun _ _ _ h => h) (Or.inl ⟨by rfl, ?_⟩) ?_ ?_
      rotate_left
      ·intro w'
       go_simp
       first | with_reducible rfl | (unfold Instr.field; simp only [go_sem, run_underlying Try.underlying72]; go_simp; rfl)
      rotate_left; (simp only [Act.put, List.setIfInBounds_toArray, List.set_cons_zero, List.set_cons_succ, i64_w, i32_w]; rfl)
      refine done_ (done_of HT_.out (by kernel_rfl)) ?_
      try go_wp2
      go_ret
      exact ⟨by first | rfl | (simp [errW_none, errW_some] <;> rfl) | (simp [*, errW_none, errW_some] <;> rfl), by repeat (with_reducible first | exact HB.out | apply pw_below_drewN | apply below_drew1 | refine below_set ?_ GE163.out)⟩
     ·rw [if_neg c6] at H
      have c6b0 : decide ((l0_2.length : Int) ≤ a0_0) = false := decide_eq_false c6
      clear c6
      obtain rfl := Option.some.inj H
      go_enter Try.func32, Try.ntmps32
      try go_wp2_with (first | ((with_reducible refine gate_dst (N := 1) rfl ?_); (try (refine gate_guard (by rfl) ?_; dsimp only)); refine box_event ?hg (N := 1) ?hd (cs := #[.int .i64 a0_0, .int .i64 a0_1, .slice A0_2 l0_2.length c0_2]) (t := 24) ?hr ?_; (case hd => rfl); (case hg => rfl); (case hr => first | (go_simp; done) | (go_simp; rfl)); intro gb163 hg w14 hbox hb; have BK163 := Aside0.mk (hbox); have GW163 := Aside0.mk ((by rw [hg]; exact (below_size HB.out) : w.heap.size ≤ gb163)); have GE163 := Aside0.mk ((by rw [hg]; exact (below_size HB.out) : w.heap.size ≤ gb163)); replace HB := Aside0.mk (below_step HB.out hb); clear hb hbox hg))
      replace BK163 := Aside0.mk (blk_drew BK163.out)
      replace HB := Aside0.mk (below_drew1 HB.out)
      refine start_ (n := 35) (S := fun w' => w'.cell? ⟨gb163, 0, none⟩ = some (.int .i64 a0_0) ∧ w'.cell? ⟨gb163, 1, none⟩ = some (.int .i64 a0_1) ∧ w'.cell? ⟨gb163, 2, none⟩ = some (.slice A0_2 l0_2.length c0_2)) (ds := []) #[false, false, false, false, false, false, false, false, false, false, false, false, false, false, false, false, false, false, false, false, false, false, false, false, false, false, false, false, false, false, false, false, false, false, false] (by kernel_rfl) rfl rfl ⟨(blk_cell BK163.out 0).trans rfl, (blk_cell BK163.out 1).trans rfl, (blk_cell BK163.out 2).trans rfl⟩ (fun hHeld => ?_); refine with_tabW board_Is.tab1 board_Is.bits1 (fun HT_ HW_ => ?_)
      generalize w14.drew = w15 at BK163 HB hHeld ⊢
      have Q_ := Qs.mk (n := 35) [(0, 0, 3, 1), (2, 1, 4, 3), (0, 2, 5, 7), (0, 3, 6, 15), (0, 4, 7, 31), (2, 5, 8, 63), (0, 6, 9, 127), (0, 7, 10, 255), (0, 8, 11, 511), (0, 9, 12, 1023), (2, 10, 13, 2047), (0, 11, 14, 4095), (0, 12, 15, 8191), (0, 13, 16, 16383), (0, 14, 17, 32767), (2, 15, 18, 65535), (0, 16, 19, 131071), (0, 17, 20, 262143), (0, 18, 21, 524287), (0, 19, 22, 1048575), (0, 22, 25, 5242879), (2, 20, 23, 6291455), (0, 21, 24, 8388607), (2, 23, 26, 16777215), (0, 24, 27, 33554431), (0, 25, 28, 67108863), (0, 26, 29, 134217727), (1, 27, 30, 268435455), (1, 28, 31, 536870911), (1, 29, 32, 1073741823), (1, 30, 33, 2147483647), (1, 31, 34, 4294967295), (1, 32, 35, 8589934591), (0, 33, 36, 17179869183), (0, 34, 2, 34359738367)]
      iterate 35 (first | (obtain ⟨q_, Q_⟩ := Qs.p Q_; refine pureQ_ q_ (v := ?_) (a' := ?_) rfl rfl (any_of HT_.out (by kernel_rfl)) (fun _ _ _ h => h) (Or.inl ⟨by rfl, ?_⟩) ?_ ?_; rotate_left; (intro w'; go_simp; (first | with_reducible rfl | (unfold Instr.field; simp only [go_sem, run_underlying Try.underlying72]; go_simp; rfl))); rotate_left; (simp only [Act.put, List.setIfInBounds_toArray, List.set_cons_zero, List.set_cons_succ, i64_w, i32_w]; rfl)) | (obtain ⟨q_, Q_⟩ := Qs.u Q_; refine pureQ_ q_ (v := undef) (a' := ?_) rfl rfl (any_of HT_.out (by kernel_rfl)) (fun _ _ _ h => h) (Or.inr ⟨by rfl, rfl⟩) ?_ ?_; rotate_left; (simp only [Act.put, List.setIfInBounds_toArray, List.set_cons_zero, List.set_cons_succ, i64_w, i32_w]; rfl)) | (obtain ⟨q_, Q_⟩ := Qs.t Q_; refine takeQ_ q_ (v := ?_) (a' := ?_) rfl rfl (take_ofW HT_.out HW_.out (by kernel_rfl)) (fun _ _ _ h => h) (Or.inl ⟨by rfl, ?_⟩) hHeld ?_ ?_; rotate_left; (rintro w' ⟨s0, s1, s2⟩; go_simp; (first | with_reducible rfl | (unfold Instr.field; simp only [go_sem, run_underlying Try.underlying72]; go_simp; rfl))); rotate_left; (simp only [Act.put, List.setIfInBounds_toArray, List.set_cons_zero, List.set_cons_succ, i64_w, i32_w]; rfl)))
      clear Q_
      refine done_ (done_of HT_.out (by kernel_rfl)) ?_
      try go_wp2
      go_ret
      exact ⟨by first | rfl | (simp [errW_none, errW_some] <;> rfl) | (simp [*, errW_none, errW_some] <;> rfl), by repeat (with_reducible first | exact HB.out | apply pw_below_drewN | apply below_drew1 | refine below_set ?_ GE163.out)⟩
    ·rw [if_neg c5] at H
     have c5b0 : decide (a0_1 ≤ 1000000000) = false := decide_eq_false c5
     clear c5
     obtain rfl := Option.some.inj H
     go_enter Try.func32, Try.ntmps32
     try go_wp2_with (first | ((with_reducible refine gate_dst (N := 1) rfl ?_); (try (refine gate_guard (by rfl) ?_; dsimp only)); refine box_event ?hg (N := 1) ?hd (cs := #[.int .i64 a0_0, .int .i64 a0_1, .slice A0_2 l0_2.length c0_2]) (t := 24) ?hr ?_; (case hd => rfl); (case hg => rfl); (case hr => first | (go_simp; done) | (go_simp; rfl)); intro gb163 hg w16 hbox hb; have BK163 := Aside0.mk (hbox); have GW163 := Aside0.mk ((by rw [hg]; exact (below_size HB.out) : w.heap.size ≤ gb163)); have GE163 := Aside0.mk ((by rw [hg]; exact (below_size HB.out) : w.heap.size ≤ gb163)); replace HB := Aside0.mk (below_step HB.out hb); clear hb hbox hg))
     replace BK163 := Aside0.mk (blk_drew BK163.out)
     replace HB := Aside0.mk (below_drew1 HB.out)
     refine start_ (n := 35) (S := fun w' => w'.cell? ⟨gb163, 0, none⟩ = some (.int .i64 a0_0) ∧ w'.cell? ⟨gb163, 1, none⟩ = some (.int .i64 a0_1) ∧ w'.cell? ⟨gb163, 2, none⟩ = some (.slice A0_2 l0_2.length c0_2)) (ds := []) #[false, false, false, false, false, false, false, false, false, false, false, false, false, false, false, false, false, false, false, false, false, false, false, false, false, false, false, false, false, false, false, false, false, false, false] (by kernel_rfl) rfl rfl ⟨(blk_cell BK163.out 0).trans rfl, (blk_cell BK163.out 1).trans rfl, (blk_cell BK163.out 2).trans rfl⟩ (fun hHeld => ?_); refine with_tabW board_Is.tab1 board_Is.bits1 (fun HT_ HW_ => ?_)
     generalize w16.drew = w17 at BK163 HB hHeld ⊢
     have Q_ := Qs.mk (n := 35) [(0, 0, 3, 1), (2, 1, 4, 3), (0, 2, 5, 7), (0, 3, 6, 15), (0, 4, 7, 31), (2, 5, 8, 63), (0, 6, 9, 127), (0, 7, 10, 255), (0, 8, 11, 511), (0, 9, 12, 1023), (2, 10, 13, 2047), (0, 11, 14, 4095), (0, 12, 15, 8191), (0, 13, 16, 16383), (0, 14, 17, 32767), (2, 15, 18, 65535), (0, 16, 19, 131071), (0, 17, 20, 262143), (0, 18, 21, 524287), (1, 19, 22, 1048575), (1, 20, 23, 2097151), (1, 21, 24, 4194303), (1, 22, 25, 8388607), (1, 23, 26, 16777215), (1, 24, 27, 33554431), (0, 25, 28, 67108863), (0, 26, 29, 134217727), (1, 27, 30, 268435455), (1, 28, 31, 536870911), (1, 29, 32, 1073741823), (1, 30, 33, 2147483647), (1, 31, 34, 4294967295), (1, 32, 35, 8589934591), (0, 33, 36, 17179869183), (0, 34, 2, 34359738367)]
     iterate 35 (first | (obtain ⟨q_, Q_⟩ := Qs.p Q_; refine pureQ_ q_ (v := ?_) (a' := ?_) rfl rfl (any_of HT_.out (by kernel_rfl)) (fun _ _ _ h => h) (Or.inl ⟨by rfl, ?_⟩) ?_ ?_; rotate_left; (intro w'; go_simp; (first | with_reducible rfl | (unfold Instr.field; simp only [go_sem, run_underlying Try.underlying72]; go_simp; rfl))); rotate_left; (simp only [Act.put, List.setIfInBounds_toArray, List.set_cons_zero, List.set_cons_succ, i64_w, i32_w]; rfl)) | (obtain ⟨q_, Q_⟩ := Qs.u Q_; refine pureQ_ q_ (v := undef) (a' := ?_) rfl rfl (any_of HT_.out (by kernel_rfl)) (fun _ _ _ h => h) (Or.inr ⟨by rfl, rfl⟩) ?_ ?_; rotate_left; (simp only [Act.put, List.setIfInBounds_toArray, List.set_cons_zero, List.set_cons_succ, i64_w, i32_w]; rfl)) | (obtain ⟨q_, Q_⟩ := Qs.t Q_; refine takeQ_ q_ (v := ?_) (a' := ?_) rfl rfl (take_ofW HT_.out HW_.out (by kernel_rfl)) (fun _ _ _ h => h) (Or.inl ⟨by rfl, ?_⟩) hHeld ?_ ?_; rotate_left; (rintro w' ⟨s0, s1, s2⟩; go_simp; (first | with_reducible rfl | (unfold Instr.field; simp only [go_sem, run_underlying Try.underlying72]; go_simp; rfl))); rotate_left; (simp only [Act.put, List.setIfInBounds_toArray, List.set_cons_zero, List.set_cons_succ, i64_w, i32_w]; rfl)))
     clear Q_
     refine done_ (done_of HT_.out (by kernel_rfl)) ?_
     try go_wp2
     go_ret
     exact ⟨by first | rfl | (simp [errW_none, errW_some] <;> rfl) | (simp [*, errW_none, errW_some] <;> rfl), by repeat (with_reducible first | exact HB.out | apply pw_below_drewN | apply below_drew1 | refine below_set ?_ GE163.out)⟩
   ·rw [if_neg c4] at H
    have c4b0 : decide (0 ≤ a0_1) = false := decide_eq_false c4
    clear c4
    obtain rfl := Option.some.inj H
    go_enter Try.func32, Try.ntmps32
    try go_wp2_with (first | ((with_reducible refine gate_dst (N := 1) rfl ?_); (try (refine gate_guard (by rfl) ?_; dsimp only)); refine box_event ?hg (N := 1) ?hd (cs := #[.int .i64 a0_0, .int .i64 a0_1, .slice A0_2 l0_2.length c0_2]) (t := 24) ?hr ?_; (case hd => rfl); (case hg => rfl); (case hr => first | (go_simp; done) | (go_simp; rfl)); intro gb163 hg w18 hbox hb; have BK163 := Aside0.mk (hbox); have GW163 := Aside0.mk ((by rw [hg]; exact (below_size HB.out) : w.heap.size ≤ gb163)); have GE163 := Aside0.mk ((by rw [hg]; exact (below_size HB.out) : w.heap.size ≤ gb163)); replace HB := Aside0.mk (below_step HB.out hb); clear hb hbox hg))
    replace BK163 := Aside0.mk (blk_drew BK163.out)
    replace HB := Aside0.mk (below_drew1 HB.out)
    refine start_ (n := 35) (S := fun w' => w'.cell? ⟨gb163, 0, none⟩ = some (.int .i64 a0_0) ∧ w'.cell? ⟨gb163, 1, none⟩ = some (.int .i64 a0_1) ∧ w'.cell? ⟨gb163, 2, none⟩ = some (.slice A0_2 l0_2.length c0_2)) (ds := []) #[false, false, false, false, false, false, false, false, false, false, false, false, false, false, false, false, false, false, false, false, false, false, false, false, false, false, false, false, false, false, false, false, false, false, false] (by kernel_rfl) rfl rfl ⟨(blk_cell BK163.out 0).trans rfl, (blk_cell BK163.out 1).trans rfl, (blk_cell BK163.out 2).trans rfl⟩ (fun hHeld => ?_); refine with_tabW board_Is.tab1 board_Is.bits1 (fun HT_ HW_ => ?_)
    generalize w18.drew = w19 at BK163 HB hHeld ⊢
    have Q_ := Qs.mk (n := 35) [(0, 0, 3, 1), (2, 1, 4, 3), (0, 2, 5, 7), (0, 3, 6, 15), (0, 4, 7, 31), (2, 5, 8, 63), (0, 6, 9, 127), (0, 7, 10, 255), (0, 8, 11, 511), (0, 9, 12, 1023), (2, 10, 13, 2047), (0, 11, 14, 4095), (0, 12, 15, 8191), (0, 13, 16, 16383), (1, 14, 17, 32767), (1, 15, 18, 65535), (1, 16, 19, 131071), (0, 17, 20, 262143), (0, 18, 21, 524287), (1, 19, 22, 1048575), (1, 20, 23, 2097151), (1, 21, 24, 4194303), (1, 22, 25, 8388607), (1, 23, 26, 16777215), (1, 24, 27, 33554431), (0, 25, 28, 67108863), (0, 26, 29, 134217727), (1, 27, 30, 268435455), (1, 28, 31, 536870911), (1, 29, 32, 1073741823), (1, 30, 33, 2147483647), (1, 31, 34, 4294967295), (1, 32, 35, 8589934591), (0, 33, 36, 17179869183), (0, 34, 2, 34359738367)]
    iterate 35 (first | (obtain ⟨q_, Q_⟩ := Qs.p Q_; refine pureQ_ q_ (v := ?_) (a' := ?_) rfl rfl (any_of HT_.out (by kernel_rfl)) (fun _ _ _ h => h) (Or.inl ⟨by rfl, ?_⟩) ?_ ?_; rotate_left; (intro w'; go_simp; (first | with_reducible rfl | (unfold Instr.field; simp only [go_sem, run_underlying Try.underlying72]; go_simp; rfl))); rotate_left; (simp only [Act.put, List.setIfInBounds_toArray, List.set_cons_zero, List.set_cons_succ, i64_w, i32_w]; rfl)) | (obtain ⟨q_, Q_⟩ := Qs.u Q_; refine pureQ_ q_ (v := undef) (a' := ?_) rfl rfl (any_of HT_.out (by kernel_rfl)) (fun _ _ _ h => h) (Or.inr ⟨by rfl, rfl⟩) ?_ ?_; rotate_left; (simp only [Act.put, List.setIfInBounds_toArray, List.set_cons_zero, List.set_cons_succ, i64_w, i32_w]; rfl)) | (obtain ⟨q_, Q_⟩ := Qs.t Q_; refine takeQ_ q_ (v := ?_) (a' := ?_) rfl rfl (take_ofW HT_.out HW_.out (by kernel_rfl)) (fun _ _ _ h => h) (Or.inl ⟨by rfl, ?_⟩) hHeld ?_ ?_; rotate_left; (rintro w' ⟨s0, s1, s2⟩; go_simp; (first | with_reducible rfl | (unfold Instr.field; simp only [go_sem, run_underlying Try.underlying72]; go_simp; rfl))); rotate_left; (simp only [Act.put, List.setIfInBounds_toArray, List.set_cons_zero, List.set_cons_succ, i64_w, i32_w]; rfl)))
    clear Q_
    refine done_ (done_of HT_.out (by kernel_rfl)) ?_
    try go_wp2
    go_ret
    exact ⟨by first | rfl | (simp [errW_none, errW_some] <;> rfl) | (simp [*, errW_none, errW_some] <;> rfl), by repeat (with_reducible first | exact HB.out | apply pw_below_drewN | apply below_drew1 | refine below_set ?_ GE163.out)⟩
  ·rw [if_neg c3] at H
   have c3b0 : decide (a0_0 ≤ 200) = false := decide_eq_false c3
   clear c3
   obtain rfl := Option.some.inj H
   go_enter Try.func32, Try.ntmps32
   try go_wp2_with (first | ((with_reducible refine gate_dst (N := 1) rfl ?_); (try (refine gate_guard (by rfl) ?_; dsimp only)); refine box_event ?hg (N := 1) ?hd (cs := #[.int .i64 a0_0, .int .i64 a0_1, .slice A0_2 l0_2.length c0_2]) (t := 24) ?hr ?_; (case hd => rfl); (case hg => rfl); (case hr => first | (go_simp; done) | (go_simp; rfl)); intro gb163 hg w20 hbox hb; have BK163 := Aside0.mk (hbox); have GW163 := Aside0.mk ((by rw [hg]; exact (below_size HB.out) : w.heap.size ≤ gb163)); have GE163 := Aside0.mk ((by rw [hg]; exact (below_size HB.out) : w.heap.size ≤ gb163)); replace HB := Aside0.mk (below_step HB.out hb); clear hb hbox hg))
   replace BK163 := Aside0.mk (blk_drew BK163.out)
   replace HB := Aside0.mk (below_drew1 HB.out)
   refine start_ (n := 35) (S := fun w' => w'.cell? ⟨gb163, 0, none⟩ = some (.int .i64 a0_0) ∧ w'.cell? ⟨gb163, 1, none⟩ = some (.int .i64 a0_1) ∧ w'.cell? ⟨gb163, 2, none⟩ = some (.slice A0_2 l0_2.length c0_2)) (ds := []) #[false, false, false, false, false, false, false, false, false, false, false, false, false, false, false, false, false, false, false, false, false, false, false, false, false, false, false, false, false, false, false, false, false, false, false] (by kernel_rfl) rfl rfl ⟨(blk_cell BK163.out 0).trans rfl, (blk_cell BK163.out 1).trans rfl, (blk_cell BK163.out 2).trans rfl⟩ (fun hHeld => ?_); refine with_tabW board_Is.tab1 board_Is.bits1 (fun HT_ HW_ => ?_)
   generalize w20.drew = w21 at BK163 HB hHeld ⊢
   have Q_ := Qs.mk (n := 35) [(0, 0, 3, 1), (2, 1, 4, 3), (0, 2, 5, 7), (0, 3, 6, 15), (0, 4, 7, 31), (2, 5, 8, 63), (0, 6, 9, 127), (0, 7, 10, 255), (0, 8, 11, 511), (1, 9, 12, 1023), (1, 10, 13, 2047), (1, 11, 14, 4095), (0, 12, 15, 8191), (0, 13, 16, 16383), (1, 14, 17, 32767), (1, 15, 18, 65535), (1, 16, 19, 131071), (0, 17, 20, 262143), (0, 18, 21, 524287), (1, 19, 22, 1048575), (1, 20, 23, 2097151), (1, 21, 24, 4194303), (1, 22, 25, 8388607), (1, 23, 26, 16777215), (1, 24, 27, 33554431), (0, 25, 28, 67108863), (0, 26, 29, 134217727), (1, 27, 30, 268435455), (1, 28, 31, 536870911), (1, 29, 32, 1073741823), (1, 30, 33, 2147483647), (1, 31, 34, 4294967295), (1, 32, 35, 8589934591), (0, 33, 36, 17179869183), (0, 34, 2, 34359738367)]
   iterate 35 (first | (obtain ⟨q_, Q_⟩ := Qs.p Q_; refine pureQ_ q_ (v := ?_) (a' := ?_) rfl rfl (any_of HT_.out (by kernel_rfl)) (fun _ _ _ h => h) (Or.inl ⟨by rfl, ?_⟩) ?_ ?_; rotate_left; (intro w'; go_simp; (first | with_reducible rfl | (unfold Instr.field; simp only [go_sem, run_underlying Try.underlying72]; go_simp; rfl))); rotate_left; (simp only [Act.put, List.setIfInBounds_toArray, List.set_cons_zero, List.set_cons_succ, i64_w, i32_w]; rfl)) | (obtain ⟨q_, Q_⟩ := Qs.u Q_; refine pureQ_ q_ (v := undef) (a' := ?_) rfl rfl (any_of HT_.out (by kernel_rfl)) (fun _ _ _ h => h) (Or.inr ⟨by rfl, rfl⟩) ?_ ?_; rotate_left; (simp only [Act.put, List.setIfInBounds_toArray, List.set_cons_zero, List.set_cons_succ, i64_w, i32_w]; rfl)) | (obtain ⟨q_, Q_⟩ := Qs.t Q_; refine takeQ_ q_ (v := ?_) (a' := ?_) rfl rfl (take_ofW HT_.out HW_.out (by kernel_rfl)) (fun _ _ _ h => h) (Or.inl ⟨by rfl, ?_⟩) hHeld ?_ ?_; rotate_left; (rintro w' ⟨s0, s1, s2⟩; go_simp; (first | with_reducible rfl | (unfold Instr.field; simp only [go_sem, run_underlying Try.underlying72]; go_simp; rfl))); rotate_left; (simp only [Act.put, List.setIfInBounds_toArray, List.set_cons_zero, List.set_cons_succ, i64_w, i32_w]; rfl)))
   clear Q_
   refine done_ (done_of HT_.out (by kernel_rfl)) ?_
   try go_wp2
   go_ret
   exact ⟨by first | rfl | (simp [errW_none, errW_some] <;> rfl) | (simp [*, errW_none, errW_some] <;> rfl), by repeat (with_reducible first | exact HB.out | apply pw_below_drewN | apply below_drew1 | refine below_set ?_ GE163.out)⟩
 ·rw [if_neg c2] at H
  have c2b0 : decide (1 ≤ a0_0) = false := decide_eq_false c2
  clear c2
  obtain rfl := Option.some.inj H
  go_enter Try.func32, Try.ntmps32
  try go_wp2_with (first | ((with_reducible refine gate_dst (N := 1) rfl ?_); (try (refine gate_guard (by rfl) ?_; dsimp only)); refine box_event ?hg (N := 1) ?hd (cs := #[.int .i64 a0_0, .int .i64 a0_1, .slice A0_2 l0_2.length c0_2]) (t := 24) ?hr ?_; (case hd => rfl); (case hg => rfl); (case hr => first | (go_simp; done) | (go_simp; rfl)); intro gb163 hg w22 hbox hb; have BK163 := Aside0.mk (hbox); have GW163 := Aside0.mk ((by rw [hg]; exact (below_size HB.out) : w.heap.size ≤ gb163)); have GE163 := Aside0.mk ((by rw [hg]; exact (below_size HB.out) : w.heap.size ≤ gb163)); replace HB := Aside0.mk (below_step HB.out hb); clear hb hbox hg))
  replace BK163 := Aside0.mk (blk_drew BK163.out)
  replace HB := Aside0.mk (below_drew1 HB.out)
  refine start_ (n := 35) (S := fun w' => w'.cell? ⟨gb163, 0, none⟩ = some (.int .i64 a0_0) ∧ w'.cell? ⟨gb163, 1, none⟩ = some (.int .i64 a0_1) ∧ w'.cell? ⟨gb163, 2, none⟩ = some (.slice A0_2 l0_2.length c0_2)) (ds := []) #[false, false, false, false, false, false, false, false, false, false, false, false, false, false, false, false, false, false, false, false, false, false, false, false, false, false, false, false, false, false, false, false, false, false, false] (by kernel_rfl) rfl rfl ⟨(blk_cell BK163.out 0).trans rfl, (blk_cell BK163.out 1).trans rfl, (blk_cell BK163.out 2).trans rfl⟩ (fun hHeld => ?_); refine with_tabW board_Is.tab1 board_Is.bits1 (fun HT_ HW_ => ?_)
  generalize w22.drew = w23 at BK163 HB hHeld ⊢
  have Q_ := Qs.mk (n := 35) [(0, 0, 3, 1), (2, 1, 4, 3), (0, 2, 5, 7), (0, 3, 6, 15), (1, 4, 7, 31), (1, 5, 8, 63), (1, 6, 9, 127), (0, 7, 10, 255), (0, 8, 11, 511), (1, 9, 12, 1023), (1, 10, 13, 2047), (1, 11, 14, 4095), (0, 12, 15, 8191), (0, 13, 16, 16383), (1, 14, 17, 32767), (1, 15, 18, 65535), (1, 16, 19, 131071), (0, 17, 20, 262143), (0, 18, 21, 524287), (1, 19, 22, 1048575), (1, 20, 23, 2097151), (1, 21, 24, 4194303), (1, 22, 25, 8388607), (1, 23, 26, 16777215), (1, 24, 27, 33554431), (0, 25, 28, 67108863), (0, 26, 29, 134217727), (1, 27, 30, 268435455), (1, 28, 31, 536870911), (1, 29, 32, 1073741823), (1, 30, 33, 2147483647), (1, 31, 34, 4294967295), (1, 32, 35, 8589934591), (0, 33, 36, 17179869183), (0, 34, 2, 34359738367)]
  iterate 35 (first | (obtain ⟨q_, Q_⟩ := Qs.p Q_; refine pureQ_ q_ (v := ?_) (a' := ?_) rfl rfl (any_of HT_.out (by kernel_rfl)) (fun _ _ _ h => h) (Or.inl ⟨by rfl, ?_⟩) ?_ ?_; rotate_left; (intro w'; go_simp; (first | with_reducible rfl | (unfold Instr.field; simp only [go_sem, run_underlying Try.underlying72]; go_simp; rfl))); rotate_left; (simp only [Act.put, List.setIfInBounds_toArray, List.set_cons_zero, List.set_cons_succ, i64_w, i32_w]; rfl)) | (obtain ⟨q_, Q_⟩ := Qs.u Q_; refine pureQ_ q_ (v := undef) (a' := ?_) rfl rfl (any_of HT_.out (by kernel_rfl)) (fun _ _ _ h => h) (Or.inr ⟨by rfl, rfl⟩) ?_ ?_; rotate_left; (simp only [Act.put, List.setIfInBounds_toArray, List.set_cons_zero, List.set_cons_succ, i64_w, i32_w]; rfl)) | (obtain ⟨q_, Q_⟩ := Qs.t Q_; refine takeQ_ q_ (v := ?_) (a' := ?_) rfl rfl (take_ofW HT_.out HW_.out (by kernel_rfl)) (fun _ _ _ h => h) (Or.inl ⟨by rfl, ?_⟩) hHeld ?_ ?_; rotate_left; (rintro w' ⟨s0, s1, s2⟩; go_simp; (first | with_reducible rfl | (unfold Instr.field; simp only [go_sem, run_underlying Try.underlying72]; go_simp; rfl))); rotate_left; (simp only [Act.put, List.setIfInBounds_toArray, List.set_cons_zero, List.set_cons_succ, i64_w, i32_w]; rfl)))
  clear Q_
  refine done_ (done_of HT_.out (by kernel_rfl)) ?_
  try go_wp2
  go_ret
  exact ⟨by first | rfl | (simp [errW_none, errW_some] <;> rfl) | (simp [*, errW_none, errW_some] <;> rfl), by repeat (with_reducible first | exact HB.out | apply pw_below_drewN | apply below_drew1 | refine below_set ?_ GE163.out)⟩

/-! ### board_alarms_find: function 52 -/
def board_alarms_find.l0 : Nat → List (S28) → Int → Int → Int → Option (Int × Bool)
 | 0, _, _, _, _ => none
 | k + 1, x0, x6, x174000, x174001 => if x6 < (x0.length : Int) then (if 0 ≤ x6 then ((spot_Less.f ((rd_T28 x0 x6).f0.f0) ((rd_T28 x0 x6).f0.f1) x174000 x174001).bind fun t175 => (if t175 = true then (board_alarms_find.l0 k x0 (wrap64 (x6 + 1)) x174000 x174001) else (some (x6, (((rd_T28 x0 x6).f0.f0) == x174000 && (((rd_T28 x0 x6).f0.f1) == x174001)))))) else (none)) else (some (x6, false))
def board_alarms_find.f (k : Nat) (l0 : List (S28)) (a1_0 : Int) (a1_1 : Int) : Option (Int × Bool) := board_alarms_find.l0 k l0 0 a1_0 a1_1
theorem board_alarms_find.mono_l : ∀ k, (∀ y0 y1 y2 y3, LeO (board_alarms_find.l0 k y0 y1 y2 y3) (board_alarms_find.l0 (k + 1) y0 y1 y2 y3))
 | 0 => fun _ _ _ _ r h => by simp [board_alarms_find.l0] at h
 | k + 1 => by
  have ih0 := board_alarms_find.mono_l k
  ·intro y0 y1 y2 y3
   unfold board_alarms_find.l0
   repeat' first
   | (with_reducible exact ih0 _ _ _ _)
   | (with_reducible exact LeO.refl _)
   | (with_reducible exact LeO.none _)
   | (with_reducible refine LeO.ite ?_ ?_)
   | (with_reducible refine LeO.bind ?_ (fun _ => ?_))
   | exact ih0 _ _ _ _
   | exact LeO.none _
   | refine LeO.ite ?_ ?_
   | refine LeO.bind ?_ (fun _ => ?_)
theorem board_alarms_find.mono : ∀ a0 a1 a2 k, LeO (board_alarms_find.f k a0 a1 a2) (board_alarms_find.f (k + 1) a0 a1 a2) := by
 intro a0 a1 a2 k
 have ih0 := board_alarms_find.mono_l k
 unfold board_alarms_find.f
 repeat' first
   | (with_reducible exact ih0 _ _ _ _)
   | (with_reducible exact LeO.refl _)
   | (with_reducible exact LeO.none _)
   | (with_reducible refine LeO.ite ?_ ?_)
   | (with_reducible refine LeO.bind ?_ (fun _ => ?_))
   | exact ih0 _ _ _ _
   | exact LeO.none _
   | refine LeO.ite ?_ ?_
   | refine LeO.bind ?_ (fun _ => ?_)
def board_alarms_find.T2 : Bool × List (List Nat × List Nat) := (true, [([], []), ([], []), ([1], [1]), ([0, 2], [0, 2]), ([3], [3]), ([4], [4]), ([4], [4]), ([5, 6, 4], [4, 5, 6]), ([7, 4], [4, 7]), ([8, 4], [4, 8]), ([4], [4]), ([9, 10, 4, 4], [4, 9, 10]), ([4, 11], [4, 11])])
def board_alarms_find.B2 : List Nat := [0, 0, 2, 7, 15, 31, 31, 127, 255, 511, 31, 2047, 4095]
theorem board_alarms_find.tab2 : rtab .any (opsOf Try.f52 2) = board_alarms_find.T2 := by kernel_rfl
theorem board_alarms_find.bits2 : waitsOk board_alarms_find.T2.2 board_alarms_find.B2 = true := by kernel_rfl
def board_alarms_find.T4 : Bool × List (List Nat × List Nat) := (true, [([], []), ([], []), ([], []), ([2], [2]), ([1, 3], [1, 3]), ([4], [4]), ([5], [5]), ([5], [5]), ([6, 7, 5], [5, 6, 7]), ([8, 5], [5, 8]), ([9, 5], [5, 9]), ([5], [5]), ([10, 11, 5], [5, 10, 11]), ([5, 12], [5, 12]), ([0, 5, 0], [0]), ([13, 14, 0, 1, 2, 3, 4, 5, 6, 7, 8, 9, 10, 11, 12, 13, 14], [13])])
def board_alarms_find.B4 : List Nat := [0, 0, 0, 4, 14, 30, 62, 62, 254, 510, 1022, 62, 4094, 8190, 63, 32767]
theorem board_alarms_find.tab4 : rtab .any (opsOf Try.f52 4) = board_alarms_find.T4 := by kernel_rfl
theorem board_alarms_find.bits4 : waitsOk board_alarms_find.T4.2 board_alarms_find.B4 = true := by kernel_rfl
set_option maxHeartbeats 8000000 in
set_option maxRecDepth 100000 in
theorem board_alarms_find.calls (k : Nat) (A0 : Option Addr) (c0 : Nat) (l0 : List (S28)) (a1_0 : Int) (a1_1 : Int) (r1 : Int) (r2 : Bool) (w : World) (hr0 : Kd.C k28 w A0 l0.length l0) (hc0 : l0.length ≤ c0) (h : board_alarms_find.f k l0 a1_0 a1_1 = some (r1, r2)) :
  Calls Try.prog 52 #[.slice A0 l0.length c0, .agg #[.int .i64 a1_0, .int .i64 a1_1]] w fun e w' => e = .returned (.tuple #[.int .i64 r1, .bool r2]) ∧ Below w.heap.size w w' := by
 have hu26 := Try.underlying26
 have HR0 := Aside0.mk hr0
 have HC0 := Aside0.mk hc0
 clear hr0 hc0
 have HB := Aside0.mk (Below.refl w.heap.size w)
 have H : (board_alarms_find.l0 k l0 0 a1_0 a1_1) = some (r1, r2) := h
 clear h
 have H' := Aside0.mk H
 clear H
 go_enter Try.func52, Try.ntmps52
 go_wp2_with (first | ((with_reducible refine gate_dst (N := 3) rfl ?_); refine box_event ?hg (N := 3) ?hd (cs := #[.int .i64 a1_0, .int .i64 a1_1]) (t := 26) ?hr ?_; (case hd => rfl); (case hg => rfl); (case hr => first | (go_simp; done) | (go_simp; rfl)); intro gb173 hg w3 hbox hb; have BK173 := Aside0.mk (hbox); have GW173 := Aside0.mk ((by rw [hg]; exact (below_size HB.out) : w.heap.size ≤ gb173)); have GE173 := Aside0.mk ((by rw [hg]; exact (below_size HB.out) : w.heap.size ≤ gb173)); replace HB := Aside0.mk (below_step HB.out hb); clear hb hbox hg))
 (try simp only [Act.put, List.setIfInBounds_toArray, List.set_cons_zero, List.set_cons_succ])
 go_loopg [6] k (fun kq v6 w' => ∃ (x6_1 : Int), v6 = .int .i64 x6_1 ∧ Aside0 (board_alarms_find.l0 kq l0 x6_1 a1_0 a1_1 = some (r1, r2)) ∧ Aside0 (kq ≤ k) ∧ Aside0 (w'.heap[gb173]? = some (.cells #[.int .i64 a1_0, .int .i64 a1_1] 26 (0, 0))) ∧ Aside0 (Below w.heap.size w w'))
 case atStart => exact ⟨(0), (by first | rfl | (simp; done) | (simp [*]; done)), H', ⟨Nat.le_refl _⟩, ⟨by (with_reducible repeat (first | refine blk_drewN ?_ _ | refine blk_drew ?_ | refine blk_alloc ?_ _)); exact BK173.out⟩, ⟨by repeat (with_reducible first | exact HB.out | apply pw_below_drewN | apply below_drew1 | refine below_set ?_ GE173.out)⟩⟩
 case round =>
  clear H'
  try clear p2
  obtain ⟨x6_1, rfl, HA, HK1, BK173, HB⟩ := hrel
  cases gk with
  | zero => exact absurd HA.out (by simp [board_alarms_find.l0])
  | succ k1 =>
   have H := HA.out
   clear HA
   simp only [board_alarms_find.l0] at H
   by_cases c4 : x6_1 < (l0.length : Int)
   ·rw [if_pos c4] at H
    have c4b0 : decide (x6_1 < (l0.length : Int)) = true := decide_eq_true c4
    clear c4
    by_cases c5 : 0 ≤ x6_1
    ·rw [if_pos c5] at H
     have c5b0 : decide (0 ≤ x6_1) = true := decide_eq_true c5
     clear c5
     replace H := Option.bind_eq_some_iff.mp H
     obtain ⟨t175, A60, H⟩ := H
     try dsimp only at H
     have A6 := Aside0.mk A60
     clear A60
     by_cases c7 : t175 = true
     ·subst c7
      rw [if_pos rfl] at H; try dsimp only at H
      have H' := Aside0.mk H
      clear H
      try go_wp2
      replace BK173 := Aside0.mk (blk_drew BK173.out)
      replace HB := Aside0.mk (below_drew1 HB.out)
      have p174 : 0 ≤ (x6_1 : Int) := of_decide_eq_true (by first | (with_reducible assumption) | assumption)
      have q174 : x6_1 < (l0.length : Int) := of_decide_eq_true (by first | (with_reducible assumption) | assumption)
      obtain ⟨ad174, e174, hx174_0, hx174_1, hx174_2, hx174_3, hx174_4, hx174_5⟩ := at_T28 HR0.out x6_1 p174 q174
      have hw174_5 := hx174_5
      have hw174_4 := hx174_4
      have hw174_3 := hx174_3
      have hw174_2 := hx174_2
      have hw174_1 := hx174_1
      have hw174_0 := hx174_0
      cases e174
      replace hx174_0 := (HB.out.cell (World.block_lt_of_cell? w _ hx174_0)).trans hx174_0
      replace hx174_1 := (HB.out.cell (World.block_lt_of_cell? w _ hx174_1)).trans hx174_1
      replace hx174_2 := (HB.out.cell (World.block_lt_of_cell? w _ hx174_2)).trans hx174_2
      replace hx174_3 := (HB.out.cell (World.block_lt_of_cell? w _ hx174_3)).trans hx174_3
      replace hx174_4 := (HB.out.cell (World.block_lt_of_cell? w _ hx174_4)).trans hx174_4
      replace hx174_5 := (HB.out.cell (World.block_lt_of_cell? w _ hx174_5)).trans hx174_5
      replace p174 := eq_true p174
      replace q174 := eq_true q174
      refine start_ (n := 13) (S := fun w' => w'.cell? ⟨gb173, 0, none⟩ = some (.int .i64 a1_0) ∧ w'.cell? ⟨gb173, 1, none⟩ = some (.int .i64 a1_1) ∧ w'.cell? (ad174.add ((x6_1).toNat * 6)) = some (.int .i64 ((rd_T28 l0 x6_1).f0.f0)) ∧ w'.cell? ⟨(ad174.add ((x6_1).toNat * 6)).block, (ad174.add ((x6_1).toNat * 6)).off + 1, none⟩ = some (.int .i64 ((rd_T28 l0 x6_1).f0.f1)) ∧ w'.cell? ⟨(ad174.add ((x6_1).toNat * 6)).block, (ad174.add ((x6_1).toNat * 6)).off + 2, none⟩ = some (.int .i64 ((rd_T28 l0 x6_1).f1)) ∧ w'.cell? ⟨(ad174.add ((x6_1).toNat * 6)).block, (ad174.add ((x6_1).toNat * 6)).off + 3, none⟩ = some (.int .i64 ((rd_T28 l0 x6_1).f2)) ∧ w'.cell? ⟨(ad174.add ((x6_1).toNat * 6)).block, (ad174.add ((x6_1).toNat * 6)).off + 4, none⟩ = some (.int .i64 ((rd_T28 l0 x6_1).f3)) ∧ w'.cell? ⟨(ad174.add ((x6_1).toNat * 6)).block, (ad174.add ((x6_1).toNat * 6)).off + 5, none⟩ = some (.int .i64 ((rd_T28 l0 x6_1).f4))) (ds := []) #[false, false, false, false, false, false, false, false, false, false, false, false, false] (by kernel_rfl) rfl rfl ⟨(blk_cell BK173.out 0).trans rfl, (blk_cell BK173.out 1).trans rfl, ((HB.out.cell (World.block_lt_of_cell? w _ hw174_0)).trans hw174_0), ((HB.out.cell (World.block_lt_of_cell? w _ hw174_1)).trans hw174_1), ((HB.out.cell (World.block_lt_of_cell? w _ hw174_2)).trans hw174_2), ((HB.out.cell (World.block_lt_of_cell? w _ hw174_3)).trans hw174_3), ((HB.out.cell (World.block_lt_of_cell? w _ hw174_4)).trans hw174_4), ((HB.out.cell (World.block_lt_of_cell? w _ hw174_5)).trans hw174_5)⟩ (fun hHeld => ?_); refine with_tabW board_alarms_find.tab2 board_alarms_find.bits2 (fun HT_ HW_ => ?_)
      generalize wr.drew = w8 at BK173 HB hx174_0 hx174_1 hx174_2 hx174_3 hx174_4 hx174_5 hHeld ⊢
      have Q_ := Qs.mk (n := 13) [(0, 0, 7, 1), (0, 1, 8, 3), (0, 2, 9, 7), (0, 3, 10, 15), (0, 4, 11, 31), (0, 5, 12, 63), (0, 6, 13, 127), (0, 7, 14, 255), (0, 8, 15, 511), (2, 9, 16, 1023), (2, 10, 17, 2047)]
      iterate 11 (first | (obtain ⟨q_, Q_⟩ := Qs.p Q_; refine pureQ_ q_ (v := ?_) (a' := ?_) rfl rfl (any_of HT_.out (by kernel_rfl)) (fun _ _ _ h => h) (Or.inl ⟨by rfl, ?_⟩) ?_ ?_; rotate_left; (intro w'; go_simp; with_reducible rfl); rotate_left; (simp only [Act.put, List.setIfInBounds_toArray, List.set_cons_zero, List.set_cons_succ, i64_w, i32_w]; rfl)) | (obtain ⟨q_, Q_⟩ := Qs.t Q_; refine takeQ_ q_ (v := ?_) (a' := ?_) rfl rfl (take_ofW HT_.out HW_.out (by kernel_rfl)) (fun _ _ _ h => h) (Or.inl ⟨by rfl, ?_⟩) hHeld ?_ ?_; rotate_left; (rintro w' ⟨s0, s1, s2, s3, s4, s5, s6, s7⟩; go_simp; with_reducible rfl); rotate_left; (simp only [Act.put, List.setIfInBounds_toArray, List.set_cons_zero, List.set_cons_succ, i64_w, i32_w]; rfl)))
      clear Q_
      refine one_ (i := 11) (N := some 18) (dn_ 12 13) rfl rfl (one_of HT_.out (by kernel_rfl)) (by decide) (fun K hK => ?_)
      refine goes_ Try.func84 (by kernel_rfl) rfl #[.agg #[.int .i64 ((rd_T28 l0 x6_1).f0.f0), .int .i64 ((rd_T28 l0 x6_1).f0.f1)], .agg #[.int .i64 a1_0, .int .i64 a1_1]] (by rfl) rfl rfl (by (try simp only [List.map_toArray, List.map_cons, List.map_nil]); first | done | rfl | (simp only [List.length_drop, List.length_take]; rfl)) ?_
      with_reducible refine (spot_Less.calls ((rd_T28 l0 x6_1).f0.f0) ((rd_T28 l0 x6_1).f0.f1) a1_0 a1_1 true _ A6.out).mono ?_
      rintro e w9 ⟨rfl, hb⟩
      refine ⟨_, rfl, ?_⟩
      replace BK173 := bl_ BK173 hb
      replace HB := Aside0.mk (below_step (by repeat (with_reducible first | exact HB.out | apply pw_below_drewN | apply below_drew1 | refine below_set ?_ GE173.out)) hb)
      (try clear hb)
      (try clear hb2)
      (try clear hk)
      (try clear hi)
      refine hK.out _ _ ⟨(blk_cell BK173.out 0).trans rfl, (blk_cell BK173.out 1).trans rfl, ((HB.out.cell (World.block_lt_of_cell? w _ hw174_0)).trans hw174_0), ((HB.out.cell (World.block_lt_of_cell? w _ hw174_1)).trans hw174_1), ((HB.out.cell (World.block_lt_of_cell? w _ hw174_2)).trans hw174_2), ((HB.out.cell (World.block_lt_of_cell? w _ hw174_3)).trans hw174_3), ((HB.out.cell (World.block_lt_of_cell? w _ hw174_4)).trans hw174_4), ((HB.out.cell (World.block_lt_of_cell? w _ hw174_5)).trans hw174_5)⟩ (fun hHeld => ?_)
      clear hK K
      refine norm_ (a' := ?_) ?_ ?_
      rotate_left
      ·show Act.put _ (some 18) _ = _
       simp only [Act.put, List.setIfInBounds_toArray, List.set_cons_zero, List.set_cons_succ, i64_w, i32_w]
       rfl
      refine pure_ (i := 12) (N := some 19) (v := ?_) (a' := ?_) #[true, true, true, true, true, true, true, true, true, true, true, true, true] rfl rfl (any_of HT_.out (by kernel_rfl)) (fun _ _ _ h => h) (Or.inl ⟨by rfl, ?_⟩) ?_ ?_
      rotate_left
      ·intro w'
       go_simp
       with_reducible rfl
      rotate_left; (simp only [Act.put, List.setIfInBounds_toArray, List.set_cons_zero, List.set_cons_succ, i64_w, i32_w]; rfl)
      refine done_ (done_of HT_.out (by kernel_rfl)) ?_
      try go_wp2
      go_roundg k1
      case measure => have := HK1.out; omega
      case rel => exact ⟨(wrap64 (x6_1 + 1)), (by first | rfl | (simp; done) | (simp [*]; done)), H', ⟨by have := HK1.out; omega⟩, ⟨by (with_reducible repeat (first | refine blk_drewN ?_ _ | refine blk_drew ?_ | refine blk_alloc ?_ _)); exact BK173.out⟩, ⟨by repeat (with_reducible first | exact HB.out | apply pw_below_drewN | apply below_drew1 | refine below_set ?_ GE173.out)⟩⟩
     ·replace c7 := Bool.eq_false_iff.mpr c7
      subst c7
      rw [if_neg (show ¬ (false = true) by decide)] at H; try dsimp only at H
      simp only [Option.some.injEq, Prod.mk.injEq] at H
      obtain ⟨rfl, rfl⟩ := H
      try go_wp2
      replace BK173 := Aside0.mk (blk_drew BK173.out)
      replace HB := Aside0.mk (below_drew1 HB.out)
      have p174 : 0 ≤ (x6_1 : Int) := of_decide_eq_true (by first | (with_reducible assumption) | assumption)
      have q174 : x6_1 < (l0.length : Int) := of_decide_eq_true (by first | (with_reducible assumption) | assumption)
      obtain ⟨ad174, e174, hx174_0, hx174_1, hx174_2, hx174_3, hx174_4, hx174_5⟩ := at_T28 HR0.out x6_1 p174 q174
      have hw174_5 := hx174_5
      have hw174_4 := hx174_4
      have hw174_3 := hx174_3
      have hw174_2 := hx174_2
      have hw174_1 := hx174_1
      have hw174_0 := hx174_0
      cases e174
      replace hx174_0 := (HB.out.cell (World.block_lt_of_cell? w _ hx174_0)).trans hx174_0
      replace hx174_1 := (HB.out.cell (World.block_lt_of_cell? w _ hx174_1)).trans hx174_1
      replace hx174_2 := (HB.out.cell (World.block_lt_of_cell? w _ hx174_2)).trans hx174_2
      replace hx174_3 := (HB.out.cell (World.block_lt_of_cell? w _ hx174_3)).trans hx174_3
      replace hx174_4 := (HB.out.cell (World.block_lt_of_cell? w _ hx174_4)).trans hx174_4
      replace hx174_5 := (HB.out.cell (World.block_lt_of_cell? w _ hx174_5)).trans hx174_5
      replace p174 := eq_true p174
      replace q174 := eq_true q174
      refine start_ (n := 13) (S := fun w' => w'.cell? ⟨gb173, 0, none⟩ = some (.int .i64 a1_0) ∧ w'.cell? ⟨gb173, 1, none⟩ = some (.int .i64 a1_1) ∧ w'.cell? (ad174.add ((x6_1).toNat * 6)) = some (.int .i64 ((rd_T28 l0 x6_1).f0.f0)) ∧ w'.cell? ⟨(ad174.add ((x6_1).toNat * 6)).block, (ad174.add ((x6_1).toNat * 6)).off + 1, none⟩ = some (.int .i64 ((rd_T28 l0 x6_1).f0.f1)) ∧ w'.cell? ⟨(ad174.add ((x6_1).toNat * 6)).block, (ad174.add ((x6_1).toNat * 6)).off + 2, none⟩ = some (.int .i64 ((rd_T28 l0 x6_1).f1)) ∧ w'.cell? ⟨(ad174.add ((x6_1).toNat * 6)).block, (ad174.add ((x6_1).toNat * 6)).off + 3, none⟩ = some (.int .i64 ((rd_T28 l0 x6_1).f2)) ∧ w'.cell? ⟨(ad174.add ((x6_1).toNat * 6)).block, (ad174.add ((x6_1).toNat * 6)).off + 4, none⟩ = some (.int .i64 ((rd_T28 l0 x6_1).f3)) ∧ w'.cell? ⟨(ad174.add ((x6_1).toNat * 6)).block, (ad174.add ((x6_1).toNat * 6)).off + 5, none⟩ = some (.int .i64 ((rd_T28 l0 x6_1).f4))) (ds := []) #[false, false, false, false, false, false, false, false, false, false, false, false, false] (by kernel_rfl) rfl rfl ⟨(blk_cell BK173.out 0).trans rfl, (blk_cell BK173.out 1).trans rfl, ((HB.out.cell (World.block_lt_of_cell? w _ hw174_0)).trans hw174_0), ((HB.out.cell (World.block_lt_of_cell? w _ hw174_1)).trans hw174_1), ((HB.out.cell (World.block_lt_of_cell? w _ hw174_2)).trans hw174_2), ((HB.out.cell (World.block_lt_of_cell? w _ hw174_3)).trans hw174_3), ((HB.out.cell (World.block_lt_of_cell? w _ hw174_4)).trans hw174_4), ((HB.out.cell (World.block_lt_of_cell? w _ hw174_5)).trans hw174_5)⟩ (fun hHeld => ?_); refine with_tabW board_alarms_find.tab2 board_alarms_find.bits2 (fun HT_ HW_ => ?_)
      generalize wr.drew = w10 at BK173 HB hx174_0 hx174_1 hx174_2 hx174_3 hx174_4 hx174_5 hHeld ⊢
      have Q_ := Qs.mk (n := 13) [(0, 0, 7, 1), (0, 1, 8, 3), (0, 2, 9, 7), (0, 3, 10, 15), (0, 4, 11, 31), (0, 5, 12, 63), (0, 6, 13, 127), (0, 7, 14, 255), (0, 8, 15, 511), (2, 9, 16, 1023), (2, 10, 17, 2047)]
      iterate 11 (first | (obtain ⟨q_, Q_⟩ := Qs.p Q_; refine pureQ_ q_ (v := ?_) (a' := ?_) rfl rfl (any_of HT_.out (by kernel_rfl)) (fun _ _ _ h => h) (Or.inl ⟨by rfl, ?_⟩) ?_ ?_; rotate_left; (intro w'; go_simp; with_reducible rfl); rotate_left; (simp only [Act.put, List.setIfInBounds_toArray, List.set_cons_zero, List.set_cons_succ, i64_w, i32_w]; rfl)) | (obtain ⟨q_, Q_⟩ := Qs.t Q_; refine takeQ_ q_ (v := ?_) (a' := ?_) rfl rfl (take_ofW HT_.out HW_.out (by kernel_rfl)) (fun _ _ _ h => h) (Or.inl ⟨by rfl, ?_⟩) hHeld ?_ ?_; rotate_left; (rintro w' ⟨s0, s1, s2, s3, s4, s5, s6, s7⟩; go_simp; with_reducible rfl); rotate_left; (simp only [Act.put, List.setIfInBounds_toArray, List.set_cons_zero, List.set_cons_succ, i64_w, i32_w]; rfl)))
      clear Q_
      refine one_ (i := 11) (N := some 18) (dn_ 12 13) rfl rfl (one_of HT_.out (by kernel_rfl)) (by decide) (fun K hK => ?_)
      refine goes_ Try.func84 (by kernel_rfl) rfl #[.agg #[.int .i64 ((rd_T28 l0 x6_1).f0.f0), .int .i64 ((rd_T28 l0 x6_1).f0.f1)], .agg #[.int .i64 a1_0, .int .i64 a1_1]] (by rfl) rfl rfl (by (try simp only [List.map_toArray, List.map_cons, List.map_nil]); first | done | rfl | (simp only [List.length_drop, List.length_take]; rfl)) ?_
      with_reducible refine (spot_Less.calls ((rd_T28 l0 x6_1).f0.f0) ((rd_T28 l0 x6_1).f0.f1) a1_0 a1_1 false _ A6.out).mono ?_
      rintro e w11 ⟨rfl, hb⟩
      refine ⟨_, rfl, ?_⟩
      replace BK173 := bl_ BK173 hb
      replace HB := Aside0.mk (below_step (by repeat (with_reducible first | exact HB.out | apply pw_below_drewN | apply below_drew1 | refine below_set ?_ GE173.out)) hb)
      (try clear hb)
      (try clear hb2)
      (try clear hk)
      (try clear hi)
      refine hK.out _ _ ⟨(blk_cell BK173.out 0).trans rfl, (blk_cell BK173.out 1).trans rfl, ((HB.out.cell (World.block_lt_of_cell? w _ hw174_0)).trans hw174_0), ((HB.out.cell (World.block_lt_of_cell? w _ hw174_1)).trans hw174_1), ((HB.out.cell (World.block_lt_of_cell? w _ hw174_2)).trans hw174_2), ((HB.out.cell (World.block_lt_of_cell? w _ hw174_3)).trans hw174_3), ((HB.out.cell (World.block_lt_of_cell? w _ hw174_4)).trans hw174_4), ((HB.out.cell (World.block_lt_of_cell? w _ hw174_5)).trans hw174_5)⟩ (fun hHeld => ?_)
      clear hK K
      refine norm_ (a' := ?_) ?_ ?_
      rotate_left
      ·show Act.put _ (some 18) _ = _
       simp only [Act.put, List.setIfInBounds_toArray, List.set_cons_zero, List.set_cons_succ, i64_w, i32_w]
       rfl
      refine pure_ (i := 12) (N := some 19) (v := ?_) (a' := ?_) #[true, true, true, true, true, true, true, true, true, true, true, true, true] rfl rfl (any_of HT_.out (by kernel_rfl)) (fun _ _ _ h => h) (Or.inl ⟨by rfl, ?_⟩) ?_ ?_
      rotate_left
      ·intro w'
       go_simp
       with_reducible rfl
      rotate_left; (simp only [Act.put, List.setIfInBounds_toArray, List.set_cons_zero, List.set_cons_succ, i64_w, i32_w]; rfl)
      refine done_ (done_of HT_.out (by kernel_rfl)) ?_
      try go_wp2
      replace BK173 := Aside0.mk (blk_drew BK173.out)
      replace HB := Aside0.mk (below_drew1 HB.out)
      have p176 : 0 ≤ (x6_1 : Int) := of_decide_eq_true (by first | (with_reducible assumption) | assumption)
      have q176 : x6_1 < (l0.length : Int) := of_decide_eq_true (by first | (with_reducible assumption) | assumption)
      obtain ⟨ad176, e176, hx176_0, hx176_1, hx176_2, hx176_3, hx176_4, hx176_5⟩ := at_T28 HR0.out x6_1 p176 q176
      have hw176_5 := hx176_5
      have hw176_4 := hx176_4
      have hw176_3 := hx176_3
      have hw176_2 := hx176_2
      have hw176_1 := hx176_1
      have hw176_0 := hx176_0
      obtain rfl : ad174 = ad176 := (by injection e176)
      replace hx176_0 := (HB.out.cell (World.block_lt_of_cell? w _ hx176_0)).trans hx176_0
      replace hx176_1 := (HB.out.cell (World.block_lt_of_cell? w _ hx176_1)).trans hx176_1
      replace hx176_2 := (HB.out.cell (World.block_lt_of_cell? w _ hx176_2)).trans hx176_2
      replace hx176_3 := (HB.out.cell (World.block_lt_of_cell? w _ hx176_3)).trans hx176_3
      replace hx176_4 := (HB.out.cell (World.block_lt_of_cell? w _ hx176_4)).trans hx176_4
      replace hx176_5 := (HB.out.cell (World.block_lt_of_cell? w _ hx176_5)).trans hx176_5
      replace p176 := eq_true p176
      replace q176 := eq_true q176
      refine start_ (n := 16) (S := fun w' => w'.cell? ⟨gb173, 0, none⟩ = some (.int .i64 a1_0) ∧ w'.cell? ⟨gb173, 1, none⟩ = some (.int .i64 a1_1) ∧ w'.cell? (ad174.add ((x6_1).toNat * 6)) = some (.int .i64 ((rd_T28 l0 x6_1).f0.f0)) ∧ w'.cell? ⟨(ad174.add ((x6_1).toNat * 6)).block, (ad174.add ((x6_1).toNat * 6)).off + 1, none⟩ = some (.int .i64 ((rd_T28 l0 x6_1).f0.f1)) ∧ w'.cell? ⟨(ad174.add ((x6_1).toNat * 6)).block, (ad174.add ((x6_1).toNat * 6)).off + 2, none⟩ = some (.int .i64 ((rd_T28 l0 x6_1).f1)) ∧ w'.cell? ⟨(ad174.add ((x6_1).toNat * 6)).block, (ad174.add ((x6_1).toNat * 6)).off + 3, none⟩ = some (.int .i64 ((rd_T28 l0 x6_1).f2)) ∧ w'.cell? ⟨(ad174.add ((x6_1).toNat * 6)).block, (ad174.add ((x6_1).toNat * 6)).off + 4, none⟩ = some (.int .i64 ((rd_T28 l0 x6_1).f3)) ∧ w'.cell? ⟨(ad174.add ((x6_1).toNat * 6)).block, (ad174.add ((x6_1).toNat * 6)).off + 5, none⟩ = some (.int .i64 ((rd_T28 l0 x6_1).f4))) (ds := []) #[false, false, false, false, false, false, false, false, false, false, false, false, false, false, false, false] (by kernel_rfl) rfl rfl ⟨(blk_cell BK173.out 0).trans rfl, (blk_cell BK173.out 1).trans rfl, ((HB.out.cell (World.block_lt_of_cell? w _ hw176_0)).trans hw176_0), ((HB.out.cell (World.block_lt_of_cell? w _ hw176_1)).trans hw176_1), ((HB.out.cell (World.block_lt_of_cell? w _ hw176_2)).trans hw176_2), ((HB.out.cell (World.block_lt_of_cell? w _ hw176_3)).trans hw176_3), ((HB.out.cell (World.block_lt_of_cell? w _ hw176_4)).trans hw176_4), ((HB.out.cell (World.block_lt_of_cell? w _ hw176_5)).trans hw176_5)⟩ (fun hHeld => ?_); refine with_tabW board_alarms_find.tab4 board_alarms_find.bits4 (fun HT_ HW_ => ?_)
      generalize w11.drew = w12 at BK173 HB hx176_0 hx176_1 hx176_2 hx176_3 hx176_4 hx176_5 hHeld ⊢
      have Q_ := Qs.mk (n := 16) [(0, 0, 22, 1), (0, 1, 23, 3), (0, 2, 24, 7), (0, 3, 25, 15), (0, 4, 26, 31), (0, 5, 27, 63), (0, 6, 28, 127), (0, 7, 29, 255), (0, 8, 30, 511), (0, 9, 31, 1023), (0, 14, 4, 17407), (2, 10, 32, 18431), (2, 11, 33, 20479), (0, 12, 34, 24575), (0, 13, 35, 32767), (0, 15, 5, 65535)]
      iterate 16 (first | (obtain ⟨q_, Q_⟩ := Qs.p Q_; refine pureQ_ q_ (v := ?_) (a' := ?_) rfl rfl (any_of HT_.out (by kernel_rfl)) (fun _ _ _ h => h) (Or.inl ⟨by rfl, ?_⟩) ?_ ?_; rotate_left; (intro w'; go_simp; with_reducible rfl); rotate_left; (simp only [Act.put, List.setIfInBounds_toArray, List.set_cons_zero, List.set_cons_succ, i64_w, i32_w]; rfl)) | (obtain ⟨q_, Q_⟩ := Qs.t Q_; refine takeQ_ q_ (v := ?_) (a' := ?_) rfl rfl (take_ofW HT_.out HW_.out (by kernel_rfl)) (fun _ _ _ h => h) (Or.inl ⟨by rfl, ?_⟩) hHeld ?_ ?_; rotate_left; (rintro w' ⟨s0, s1, s2, s3, s4, s5, s6, s7⟩; go_simp; with_reducible rfl); rotate_left; (simp only [Act.put, List.setIfInBounds_toArray, List.set_cons_zero, List.set_cons_succ, i64_w, i32_w]; rfl)))
      clear Q_
      refine done_ (done_of HT_.out (by kernel_rfl)) ?_
      try go_wp2
      go_ret2
      exact ⟨by first | rfl | (simp [errW_none, errW_some] <;> rfl) | (simp [*, errW_none, errW_some] <;> rfl), by repeat (with_reducible first | exact HB.out | apply pw_below_drewN | apply below_drew1 | refine below_set ?_ GE173.out)⟩
    ·rw [if_neg c5] at H
     exact absurd H (by simp)
   ·rw [if_neg c4] at H
    have c4b0 : decide (x6_1 < (l0.length : Int)) = false := decide_eq_false c4
    clear c4
    simp only [Option.some.injEq, Prod.mk.injEq] at H
    obtain ⟨rfl, rfl⟩ := H
    try go_wp2
    replace BK173 := Aside0.mk (blk_drew BK173.out)
    replace HB := Aside0.mk (below_drew1 HB.out)
    refine start_ (n := 13) (S := fun w' => True) (ds := []) #[false, false, false, false, false, false, false, false, false, false, false, false, false] (by kernel_rfl) rfl rfl trivial (fun hHeld => ?_); refine with_tabW board_alarms_find.tab2 board_alarms_find.bits2 (fun HT_ HW_ => ?_)
    generalize wr.drew = w13 at BK173 HB hHeld ⊢
    have Q_ := Qs.mk (n := 13) [(0, 0, 7, 1), (0, 1, 8, 3), (0, 2, 9, 7), (0, 3, 10, 15), (0, 4, 11, 31), (1, 5, 12, 63), (1, 6, 13, 127), (1, 7, 14, 255), (1, 8, 15, 511), (1, 9, 16, 1023), (1, 10, 17, 2047), (1, 11, 18, 4095), (0, 12, 19, 8191)]
    iterate 13 (first | (obtain ⟨q_, Q_⟩ := Qs.p Q_; refine pureQ_ q_ (v := ?_) (a' := ?_) rfl rfl (any_of HT_.out (by kernel_rfl)) (fun _ _ _ h => h) (Or.inl ⟨by rfl, ?_⟩) ?_ ?_; rotate_left; (intro w'; go_simp; with_reducible rfl); rotate_left; (simp only [Act.put, List.setIfInBounds_toArray, List.set_cons_zero, List.set_cons_succ, i64_w, i32_w]; rfl)) | (obtain ⟨q_, Q_⟩ := Qs.u Q_; refine pureQ_ q_ (v := undef) (a' := ?_) rfl rfl (any_of HT_.out (by kernel_rfl)) (fun _ _ _ h => h) (Or.inr ⟨by rfl, rfl⟩) ?_ ?_; rotate_left; (simp only [Act.put, List.setIfInBounds_toArray, List.set_cons_zero, List.set_cons_succ, i64_w, i32_w]; rfl)))
    clear Q_
    refine done_ (done_of HT_.out (by kernel_rfl)) ?_
    try go_wp2
    replace BK173 := Aside0.mk (blk_drew BK173.out)
    replace HB := Aside0.mk (below_drew1 HB.out)
    refine start_ (n := 16) (S := fun w' => True) (ds := []) #[false, false, false, false, false, false, false, false, false, false, false, false, false, false, false, false] (by kernel_rfl) rfl rfl trivial (fun hHeld => ?_); refine with_tabW board_alarms_find.tab4 board_alarms_find.bits4 (fun HT_ HW_ => ?_)
    generalize w13.drew = w14 at BK173 HB hHeld ⊢
    have Q_ := Qs.mk (n := 16) [(0, 0, 22, 1), (0, 1, 23, 3), (0, 2, 24, 7), (0, 3, 25, 15), (0, 4, 26, 31), (0, 5, 27, 63), (1, 6, 28, 127), (1, 7, 29, 255), (1, 8, 30, 511), (1, 9, 31, 1023), (1, 10, 32, 2047), (1, 11, 33, 4095), (1, 12, 34, 8191), (0, 13, 35, 16383), (0, 14, 4, 32767), (0, 15, 5, 65535)]
    iterate 16 (first | (obtain ⟨q_, Q_⟩ := Qs.p Q_; refine pureQ_ q_ (v := ?_) (a' := ?_) rfl rfl (any_of HT_.out (by kernel_rfl)) (fun _ _ _ h => h) (Or.inl ⟨by rfl, ?_⟩) ?_ ?_; rotate_left; (intro w'; go_simp; with_reducible rfl); rotate_left; (simp only [Act.put, List.setIfInBounds_toArray, List.set_cons_zero, List.set_cons_succ, i64_w, i32_w]; rfl)) | (obtain ⟨q_, Q_⟩ := Qs.u Q_; refine pureQ_ q_ (v := undef) (a' := ?_) rfl rfl (any_of HT_.out (by kernel_rfl)) (fun _ _ _ h => h) (Or.inr ⟨by rfl, rfl⟩) ?_ ?_; rotate_left; (simp only [Act.put, List.setIfInBounds_toArray, List.set_cons_zero, List.set_cons_succ, i64_w, i32_w]; rfl)))
    clear Q_
    refine done_ (done_of HT_.out (by kernel_rfl)) ?_
    try go_wp2
    go_ret2
    exact ⟨by first | rfl | (simp [errW_none, errW_some] <;> rfl) | (simp [*, errW_none, errW_some] <;> rfl), by repeat (with_reducible first | exact HB.out | apply pw_below_drewN | apply below_drew1 | refine below_set ?_ GE173.out)⟩

end Go.Proofs.Ytcfpbmdndapeaaa.F
