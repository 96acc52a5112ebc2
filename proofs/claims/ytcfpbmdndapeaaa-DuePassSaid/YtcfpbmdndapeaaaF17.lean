-- Written by a program of this session (xprint.py), out of the translation and of contracts proved by hand.
import Derived.Test.YtcfpbmdndapeaaaF0
import Derived.Test.YtcfpbmdndapeaaaF3
import Derived.Test.YtcfpbmdndapeaaaF5
namespace Go.Proofs.Ytcfpbmdndapeaaa.F
open Go.RowKit Go.Proofs.YtcfpbmdndapeaaaV.PrintWords Go.Proofs.YtcfpbmdndapeaaaV.PrintLast Go.Proofs.YtcfpbmdndapeaaaV.PrintMore
attribute [local go_sem] max2_int min2_int max_two min_two max_three min_three max_four min_four   -- for this text's walks alone
set_option linter.unusedVariables false
set_option linter.unusedSimpArgs false

/-! ### alarm_Open: function 64 -/
def alarm_Open.f (a0_0 : Int) (a0_1 : Int) (a1 : Int) (a2 : Int) : Option (Int × Int × Int × Int × Int × Int × Int) := (spot_Is.f a0_0 a0_1).bind fun t241 => (if t241 = true then ((alarm_Wait.f a1).bind fun t242 => (if t242 = 0 then (none) else ((alarm_time.f a2).bind fun t243 => (if t243 = true then ((alarm_Wait.f a1).bind fun t244 => (some (a0_0, a0_1, 1, a1, a2, wrap64 (a2 + t244), 0))) else (none))))) else (none))
def alarm_Open.T3 : Bool × List (List Nat × List Nat) := (true, [([], []), ([], []), ([], []), ([], []), ([], []), ([4], [4]), ([3, 5], [3, 5]), ([0, 1, 2, 6], [0, 1, 2, 6]), ([7, 5, 0, 1, 2, 3, 4, 5, 6, 7], [7]), ([8, 0, 1, 2, 3, 4, 5, 6, 7, 8], [])])
def alarm_Open.B3 : List Nat := [0, 0, 0, 0, 0, 16, 56, 127, 255, 511]
theorem alarm_Open.tab3 : rtab .any (opsOf Try.f64 3) = alarm_Open.T3 := by kernel_rfl
theorem alarm_Open.bits3 : waitsOk alarm_Open.T3.2 alarm_Open.B3 = true := by kernel_rfl
set_option maxHeartbeats 8000000 in
set_option maxRecDepth 100000 in
theorem alarm_Open.calls (a0_0 : Int) (a0_1 : Int) (a1 : Int) (a2 : Int) (r1 : Int) (r2 : Int) (r3 : Int) (r4 : Int) (r5 : Int) (r6 : Int) (r7 : Int) (w : World) (h : alarm_Open.f a0_0 a0_1 a1 a2 = some (r1, r2, r3, r4, r5, r6, r7)) :
 Calls Try.prog 64 #[.agg #[.int .i64 a0_0, .int .i64 a0_1], .int .i64 a1, .int .i64 a2] w fun e w' => e = .returned (.tuple #[.agg #[.int .i64 r1, .int .i64 r2, .int .i64 r3, .int .i64 r4, .int .i64 r5, .int .i64 r6], .int .i64 r7]) ∧ Below w.heap.size w w' := by
 have hu26 := Try.underlying26
 have hu28 := Try.underlying28
 have HB := Aside0.mk (Below.refl w.heap.size w)
 have H : ((spot_Is.f a0_0 a0_1).bind fun t241 => (if t241 = true then ((alarm_Wait.f a1).bind fun t242 => (if t242 = 0 then (none) else ((alarm_time.f a2).bind fun t243 => (if t243 = true then ((alarm_Wait.f a1).bind fun t244 => (some (a0_0, a0_1, 1, a1, a2, wrap64 (a2 + t244), 0))) else (none))))) else (none))) = some (r1, r2, r3, r4, r5, r6, r7) := h
 clear h
 replace H := Option.bind_eq_some_iff.mp H
 obtain ⟨t241, A40, H⟩ := H
 try dsimp only at H
 have A4 := Aside0.mk A40
 clear A40
 by_cases c5 : t241 = true
 ·subst c5
  rw [if_pos rfl] at H; try dsimp only at H
  replace H := Option.bind_eq_some_iff.mp H
  obtain ⟨t242, A60, H⟩ := H
  try dsimp only at H
  have A6 := Aside0.mk A60
  clear A60
  by_cases c7 : t242 = 0
  ·rw [if_pos c7] at H
   exact absurd H (by simp)
  ·rw [if_neg c7] at H
   have c7b0 : (t242 == 0) = false := beq_eq_false_iff_ne.mpr c7
   have c7b1 : (t242 != 0) = true := bne_iff_ne.mpr c7
   replace H := Option.bind_eq_some_iff.mp H
   obtain ⟨t243, A80, H⟩ := H
   try dsimp only at H
   have A8 := Aside0.mk A80
   clear A80
   by_cases c9 : t243 = true
   ·subst c9
    rw [if_pos rfl] at H; try dsimp only at H
    replace H := Option.bind_eq_some_iff.mp H
    obtain ⟨t244, A100, H⟩ := H
    try dsimp only at H
    have A10 := Aside0.mk A100
    clear A100
    simp only [Option.some.injEq, Prod.mk.injEq] at H
    obtain ⟨rfl, rfl, rfl, rfl, rfl, rfl, rfl⟩ := H
    go_enter Try.func64, Try.ntmps64
    try go_wp2_with (first | ((with_reducible refine gate_dst (N := 3) rfl ?_); refine box_event ?hg (N := 3) ?hd (cs := #[.int .i64 a0_0, .int .i64 a0_1]) (t := 26) ?hr ?_; (case hd => rfl); (case hg => rfl); (case hr => first | (go_simp; done) | (go_simp; rfl)); intro gb239 hg w11 hbox hb; have BK239 := Aside0.mk (hbox); have GW239 := Aside0.mk ((by rw [hg]; exact (below_size HB.out) : w.heap.size ≤ gb239)); have GE239 := Aside0.mk ((by rw [hg]; exact (below_size HB.out) : w.heap.size ≤ gb239)); replace HB := Aside0.mk (below_step HB.out hb); clear hb hbox hg) | ((with_reducible refine gate_dst (N := 6) rfl ?_); refine box_event ?hg (N := 6) ?hd (cs := #[.int .i64 0, .int .i64 0, .int .i64 0, .int .i64 0, .int .i64 0, .int .i64 0]) (t := 28) ?hr ?_; (case hd => rfl); (case hg => rfl); (case hr => first | (go_simp; done) | (go_simp; rfl)); intro gb240 hg w12 hbox hb; have BK240 := Aside0.mk (hbox); have GW240 := Aside0.mk ((by rw [hg]; exact (below_size (by repeat (with_reducible first | exact HB.out | apply pw_below_drewN | apply below_drew1 | refine below_set ?_ GE239.out))) : w.heap.size ≤ gb240)); have GE240 := Aside0.mk ((by rw [hg]; exact (below_size (by repeat (with_reducible first | exact HB.out | apply pw_below_drewN | apply below_drew1 | refine below_set ?_ GE239.out))) : w.heap.size ≤ gb240)); replace HB := Aside0.mk (below_step (by repeat (with_reducible first | exact HB.out | apply pw_below_drewN | apply below_drew1 | refine below_set ?_ GE239.out)) hb); have NB239_240 := Aside0.mk ((by rw [hg]; exact Nat.ne_of_lt (blk_lt BK239.out) : gb239 ≠ gb240)); have NB240_239 := Aside0.mk ((by rw [hg]; exact Nat.ne_of_gt (blk_lt BK239.out) : gb240 ≠ gb239)); replace BK239 := bl_ BK239 hb; clear hb hbox hg; have hnb13 := NB239_240.out; have hnc13 := NB240_239.out; have hcz14_0 : w12.cell? ⟨gb239, 0, none⟩ = some (.int .i64 a0_0) := (blk_cell BK239.out 0).trans rfl; have hcz14_1 : w12.cell? ⟨gb239, 1, none⟩ = some (.int .i64 a0_1) := (blk_cell BK239.out 1).trans rfl; have hfz14_0 := blk_frozen BK239.out 0; have hfz14_1 := blk_frozen BK239.out 1) | ((with_reducible refine gate_callee (f := 81) rfl ?_); refine goesL_ (some 9) rfl rfl Try.func81 (by kernel_rfl) rfl #[.agg #[.int .i64 a0_0, .int .i64 a0_1]] rfl (by (try simp only [List.map_toArray, List.map_cons, List.map_nil]); first | done | rfl | (simp only [List.length_drop, List.length_take]; rfl)) ?_; (with_reducible refine (spot_Is.calls a0_0 a0_1 true _ A4.out).mono ?_); rintro e w15 ⟨rfl, hb⟩; refine ⟨_, rfl, ?_⟩; replace BK239 := bl_ BK239 hb; replace BK240 := bl_ BK240 hb; replace HB := Aside0.mk (below_step (by repeat (with_reducible first | exact HB.out | apply pw_below_drewN | apply below_drew1 | refine below_set ?_ (Aside0.out (by assumption)))) hb); (try clear hb); (try clear hb2); (try clear hk); (try clear hi)) | (go_at_call 82; (with_reducible refine (alarm_Wait.calls a1 t242 _ A6.out).mono ?_); rintro e w' ⟨rfl, ⟨nd, rfl⟩⟩; (try (rw [drewN_self w15]; generalize hq_ : World.drewN w15 _ = w15; have n0_ : Aside0 (w15.heap[gb239]? = some (.cells #[.int .i64 a0_0, .int .i64 a0_1] 26 (0, 0))) := ⟨by rw [← hq_]; exact BK239.out⟩; have n1_ : Aside0 (w15.heap[gb240]? = some (.cells #[.int .i64 0, .int .i64 0, .int .i64 0, .int .i64 0, .int .i64 0, .int .i64 0] 28 (0, 0))) := ⟨by rw [← hq_]; exact BK240.out⟩; have n2_ : Aside0 (Below w.heap.size w w15) := ⟨by rw [← hq_]; exact (by repeat (with_reducible first | exact HB.out | apply pw_below_drewN | apply below_drew1 | refine below_set ?_ (Aside0.out (by assumption))))⟩; clear BK239 BK240 HB hq_; have BK239 := n0_; have BK240 := n1_; have HB := n2_; clear n0_ n1_ n2_))) | (go_at_call 83; (with_reducible refine (alarm_time.calls a2 true _ A8.out).mono ?_); rintro e w' ⟨rfl, ⟨nd, rfl⟩⟩; (try (rw [drewN_self w15]; generalize hq_ : World.drewN w15 _ = w15; have n0_ : Aside0 (w15.heap[gb239]? = some (.cells #[.int .i64 a0_0, .int .i64 a0_1] 26 (0, 0))) := ⟨by rw [← hq_]; exact BK239.out⟩; have n1_ : Aside0 (w15.heap[gb240]? = some (.cells #[.int .i64 0, .int .i64 0, .int .i64 0, .int .i64 0, .int .i64 0, .int .i64 0] 28 (0, 0))) := ⟨by rw [← hq_]; exact BK240.out⟩; have n2_ : Aside0 (Below w.heap.size w w15) := ⟨by rw [← hq_]; exact (by repeat (with_reducible first | exact HB.out | apply pw_below_drewN | apply below_drew1 | refine below_set ?_ (Aside0.out (by assumption))))⟩; clear BK239 BK240 HB hq_; have BK239 := n0_; have BK240 := n1_; have HB := n2_; clear n0_ n1_ n2_))))
    replace BK239 := Aside0.mk (blk_drew BK239.out)
    replace BK240 := Aside0.mk (blk_drew BK240.out)
    replace HB := Aside0.mk (below_drew1 HB.out)
    refine start_ (n := 10) (S := fun w' => w'.cell? ⟨gb239, 0, none⟩ = some (.int .i64 a0_0) ∧ w'.cell? ⟨gb239, 1, none⟩ = some (.int .i64 a0_1)) (ds := []) #[false, false, false, false, false, false, false, false, false, false] (by kernel_rfl) rfl rfl ⟨(blk_cell BK239.out 0).trans rfl, (blk_cell BK239.out 1).trans rfl⟩ (fun hHeld => ?_); refine with_tabW alarm_Open.tab3 alarm_Open.bits3 (fun HT_ HW_ => ?_)
    generalize w15.drew = w16 at BK239 BK240 HB hHeld ⊢
    have Q_ := Qs.mk (n := 10) [(0, 1, 23, 2), (0, 2, 24, 6), (0, 3, 25, 14), (0, 4, 26, 30), (2, 0, 22, 31)]
    iterate 5 (first | (obtain ⟨q_, Q_⟩ := Qs.p Q_; refine pureQ_ q_ (v := ?_) (a' := ?_) rfl rfl (any_of HT_.out (by kernel_rfl)) (fun _ _ _ h => h) (Or.inl ⟨by rfl, ?_⟩) ?_ ?_; rotate_left; (intro w'; go_simp; with_reducible rfl); rotate_left; (simp only [Act.put, List.setIfInBounds_toArray, List.set_cons_zero, List.set_cons_succ, i64_w, i32_w]; rfl)) | (obtain ⟨q_, Q_⟩ := Qs.t Q_; refine takeQ_ q_ (v := ?_) (a' := ?_) rfl rfl (take_ofW HT_.out HW_.out (by kernel_rfl)) (fun _ _ _ h => h) (Or.inl ⟨by rfl, ?_⟩) hHeld ?_ ?_; rotate_left; (rintro w' ⟨s0, s1⟩; go_simp; with_reducible rfl); rotate_left; (simp only [Act.put, List.setIfInBounds_toArray, List.set_cons_zero, List.set_cons_succ, i64_w, i32_w]; rfl)))
    clear Q_
    refine one_ (i := 5) (N := some 27) (dn_ 6 10) rfl rfl (one_of HT_.out (by kernel_rfl)) (by decide) (fun K hK => ?_)
    refine goes_ Try.func82 (by kernel_rfl) rfl #[.int .i64 a1] (by rfl) rfl rfl (by (try simp only [List.map_toArray, List.map_cons, List.map_nil]); first | done | rfl | (simp only [List.length_drop, List.length_take]; rfl)) ?_
    with_reducible refine (alarm_Wait.calls a1 t244 _ A10.out).mono ?_
    rintro e w' ⟨rfl, ⟨nd, rfl⟩⟩
    refine ⟨_, rfl, ?_⟩
    refine hK.out _ _ ⟨(blk_cell BK239.out 0).trans rfl, (blk_cell BK239.out 1).trans rfl⟩ (fun hHeld => ?_)
    clear hK K
    refine norm_ (a' := ?_) ?_ ?_
    rotate_left
    ·show Act.put _ (some 27) _ = _
     simp only [Act.put, List.setIfInBounds_toArray, List.set_cons_zero, List.set_cons_succ, i64_w, i32_w]
     rfl
    refine pure_ (i := 6) (N := some 28) (v := ?_) (a' := ?_) (dn_ 7 10) rfl rfl (any_of HT_.out (by kernel_rfl)) (fun _ _ _ h => h) (Or.inl ⟨by rfl, ?_⟩) ?_ ?_
    rotate_left
    ·intro w'
     go_simp
     with_reducible rfl
    rotate_left; (simp only [Act.put, List.setIfInBounds_toArray, List.set_cons_zero, List.set_cons_succ, i64_w, i32_w]; rfl)
    refine pure_ (i := 7) (N := some 29) (v := ?_) (a' := ?_) (dn_ 8 10) rfl rfl (any_of HT_.out (by kernel_rfl)) (fun _ _ _ h => h) (Or.inl ⟨by rfl, ?_⟩) ?_ ?_
    rotate_left
    ·intro w'
     go_simp
     with_reducible rfl
    rotate_left; (simp only [Act.put, List.setIfInBounds_toArray, List.set_cons_zero, List.set_cons_succ, i64_w, i32_w]; rfl)
    refine one_ (i := 8) (N := none) (dn_ 9 10) rfl rfl (one_of HT_.out (by kernel_rfl)) (by decide) (fun K hK => ?_)
    have hs17 : w16.cell? ⟨gb240, 0, none⟩ = some (.int .i64 0) := (blk_cell BK240.out 0).trans rfl
    have hfs17 := blk_frozen BK240.out 0
    have hns17_0 := NB239_240.out
    have hms17_0 := NB240_239.out
    have hs18 : w16.cell? ⟨gb240, 1, none⟩ = some (.int .i64 0) := (blk_cell BK240.out 1).trans rfl
    have hfs18 := blk_frozen BK240.out 1
    have hns18_0 := NB239_240.out
    have hms18_0 := NB240_239.out
    have hs19 : w16.cell? ⟨gb240, 2, none⟩ = some (.int .i64 0) := (blk_cell BK240.out 2).trans rfl
    have hfs19 := blk_frozen BK240.out 2
    have hns19_0 := NB239_240.out
    have hms19_0 := NB240_239.out
    have hs20 : w16.cell? ⟨gb240, 3, none⟩ = some (.int .i64 0) := (blk_cell BK240.out 3).trans rfl
    have hfs20 := blk_frozen BK240.out 3
    have hns20_0 := NB239_240.out
    have hms20_0 := NB240_239.out
    have hs21 : w16.cell? ⟨gb240, 4, none⟩ = some (.int .i64 0) := (blk_cell BK240.out 4).trans rfl
    have hfs21 := blk_frozen BK240.out 4
    have hns21_0 := NB239_240.out
    have hms21_0 := NB240_239.out
    have hs22 : w16.cell? ⟨gb240, 5, none⟩ = some (.int .i64 0) := (blk_cell BK240.out 5).trans rfl
    have hfs22 := blk_frozen BK240.out 5
    have hns22_0 := NB239_240.out
    have hms22_0 := NB240_239.out
    refine skip_ (w1 := ?_) (by rfl) rfl ?_ ?_
    rotate_left
    ·go_simp
     rfl
    refine hK.out _ _ ⟨((cell_far (p := ⟨gb240, _, none⟩) NB239_240.out _).trans (((cell_far (p := ⟨gb240, _, none⟩) NB239_240.out _).trans (((cell_far (p := ⟨gb240, _, none⟩) NB239_240.out _).trans (((cell_far (p := ⟨gb240, _, none⟩) NB239_240.out _).trans (((cell_far (p := ⟨gb240, _, none⟩) NB239_240.out _).trans (((cell_far (p := ⟨gb240, _, none⟩) NB239_240.out _).trans (hHeld.1)))))))))))), ((cell_far (p := ⟨gb240, _, none⟩) NB239_240.out _).trans (((cell_far (p := ⟨gb240, _, none⟩) NB239_240.out _).trans (((cell_far (p := ⟨gb240, _, none⟩) NB239_240.out _).trans (((cell_far (p := ⟨gb240, _, none⟩) NB239_240.out _).trans (((cell_far (p := ⟨gb240, _, none⟩) NB239_240.out _).trans (((cell_far (p := ⟨gb240, _, none⟩) NB239_240.out _).trans (hHeld.2))))))))))))⟩ (fun hHeld => ?_)
    clear hK K
    refine pure_ (i := 9) (N := some 7) (v := ?_) (a' := ?_) #[true, true, true, true, true, true, true, true, true, true] rfl rfl (any_of HT_.out (by kernel_rfl)) (fun _ _ _ h => h) (Or.inl ⟨by rfl, ?_⟩) ?_ ?_
    rotate_left
    ·intro w'
     go_simp
     with_reducible rfl
    rotate_left; (simp only [Act.put, List.setIfInBounds_toArray, List.set_cons_zero, List.set_cons_succ, i64_w, i32_w]; rfl)
    refine done_ (done_of HT_.out (by kernel_rfl)) ?_
    try go_wp2
    refine bodyPost_ret (results_ct rfl _ _ gb240 28 #[.int .i64 a0_0, .int .i64 a0_1, .int .i64 1, .int .i64 a1, .int .i64 a2, .int .i64 (wrap64 (a2 + t244))] (0, 0) _ rfl (by refine blk_put (cs := #[.int .i64 a0_0, .int .i64 a0_1, .int .i64 1, .int .i64 a1, .int .i64 a2, .int .i64 0]) ?_ 5 _ rfl; refine blk_put (cs := #[.int .i64 a0_0, .int .i64 a0_1, .int .i64 1, .int .i64 a1, .int .i64 0, .int .i64 0]) ?_ 4 _ rfl; refine blk_put (cs := #[.int .i64 a0_0, .int .i64 a0_1, .int .i64 1, .int .i64 0, .int .i64 0, .int .i64 0]) ?_ 3 _ rfl; refine blk_put (cs := #[.int .i64 a0_0, .int .i64 a0_1, .int .i64 0, .int .i64 0, .int .i64 0, .int .i64 0]) ?_ 2 _ rfl; refine blk_put (cs := #[.int .i64 a0_0, .int .i64 0, .int .i64 0, .int .i64 0, .int .i64 0, .int .i64 0]) ?_ 1 _ rfl; refine blk_put (cs := #[.int .i64 0, .int .i64 0, .int .i64 0, .int .i64 0, .int .i64 0, .int .i64 0]) ?_ 0 _ rfl; exact BK240.out) Try.underlying28 rfl (by kernel_rfl)) rfl ?_
    exact ⟨by first | rfl | (simp [errW_none, errW_some] <;> rfl) | (simp [*, errW_none, errW_some] <;> rfl), by repeat (with_reducible first | exact HB.out | apply pw_below_drewN | apply below_drew1 | refine below_set ?_ (Aside0.out (by assumption)))⟩
   ·replace c9 := Bool.eq_false_iff.mpr c9
    subst c9
    rw [if_neg (show ¬ (false = true) by decide)] at H; try dsimp only at H
    exact absurd H (by simp)
 ·replace c5 := Bool.eq_false_iff.mpr c5
  subst c5
  rw [if_neg (show ¬ (false = true) by decide)] at H; try dsimp only at H
  exact absurd H (by simp)

/-! ### alarm_clock_silenced: function 94 -/
def alarm_clock_silenced.f (a0_0 : Int) (a0_1 : Int) (a0_2 : Int) (a0_3 : Int) (a0_4 : Int) (a0_5 : Int) (a1 : Int) (a2 : Int) : Option (Int × Int × Int × Int × Int × Int) := (alarm_clock_turned.f a0_0 a0_1 a0_2 a0_3 a0_4 a0_5 4 a1 a2).bind fun bt247 => (some (bt247.1, bt247.2.1, bt247.2.2.1, bt247.2.2.2.1, bt247.2.2.2.2.1, bt247.2.2.2.2.2))
set_option maxHeartbeats 8000000 in
set_option maxRecDepth 100000 in
theorem alarm_clock_silenced.calls (a0_0 : Int) (a0_1 : Int) (a0_2 : Int) (a0_3 : Int) (a0_4 : Int) (a0_5 : Int) (a1 : Int) (a2 : Int) (r1 : Int) (r2 : Int) (r3 : Int) (r4 : Int) (r5 : Int) (r6 : Int) (w : World) (h : alarm_clock_silenced.f a0_0 a0_1 a0_2 a0_3 a0_4 a0_5 a1 a2 = some (r1, r2, r3, r4, r5, r6)) :
 Calls Try.prog 94 #[.agg #[.int .i64 a0_0, .int .i64 a0_1, .int .i64 a0_2, .int .i64 a0_3, .int .i64 a0_4, .int .i64 a0_5], .int .i64 a1, .int .i64 a2] w fun e w' => e = .returned (.agg #[.int .i64 r1, .int .i64 r2, .int .i64 r3, .int .i64 r4, .int .i64 r5, .int .i64 r6]) ∧ Below w.heap.size w w' := by
 have hu85 := Try.underlying85
 have HB := Aside0.mk (Below.refl w.heap.size w)
 have H : ((alarm_clock_turned.f a0_0 a0_1 a0_2 a0_3 a0_4 a0_5 4 a1 a2).bind fun bt247 => (some (bt247.1, bt247.2.1, bt247.2.2.1, bt247.2.2.2.1, bt247.2.2.2.2.1, bt247.2.2.2.2.2))) = some (r1, r2, r3, r4, r5, r6) := h
 clear h
 replace H := Option.bind_eq_some_iff.mp H
 obtain ⟨⟨t247, t248, t249, t250, t251, t252⟩, A40, H⟩ := H
 try dsimp only at H
 have A4 := Aside0.mk A40
 clear A40
 simp only [Option.some.injEq, Prod.mk.injEq] at H
 obtain ⟨rfl, rfl, rfl, rfl, rfl, rfl⟩ := H
 go_enter Try.func94, Try.ntmps94
 go_wp2_with (first | ((with_reducible refine gate_dst (N := 3) rfl ?_); refine box_event ?hg (N := 3) ?hd (cs := #[.int .i64 a0_0, .int .i64 a0_1, .int .i64 a0_2, .int .i64 a0_3, .int .i64 a0_4, .int .i64 a0_5]) (t := 85) ?hr ?_; (case hd => rfl); (case hg => rfl); (case hr => first | (go_simp; done) | (go_simp; rfl)); intro gb245 hg w5 hbox hb; have BK245 := Aside0.mk (hbox); have GW245 := Aside0.mk ((by rw [hg]; exact (below_size HB.out) : w.heap.size ≤ gb245)); have GE245 := Aside0.mk ((by rw [hg]; exact (below_size HB.out) : w.heap.size ≤ gb245)); replace HB := Aside0.mk (below_step HB.out hb); clear hb hbox hg) | ((with_reducible refine gate_dst (N := 6) rfl ?_); refine box_event ?hg (N := 6) ?hd (cs := #[.int .i64 0, .int .i64 0, .int .i64 0, .int .i64 0, .int .i64 0, .int .i64 0]) (t := 85) ?hr ?_; (case hd => rfl); (case hg => rfl); (case hr => first | (go_simp; done) | (go_simp; rfl)); intro gb246 hg w6 hbox hb; have BK246 := Aside0.mk (hbox); have GW246 := Aside0.mk ((by rw [hg]; exact (below_size (by repeat (with_reducible first | exact HB.out | apply pw_below_drewN | apply below_drew1 | refine below_set ?_ GE245.out))) : w.heap.size ≤ gb246)); have GE246 := Aside0.mk ((by rw [hg]; exact (below_size (by repeat (with_reducible first | exact HB.out | apply pw_below_drewN | apply below_drew1 | refine below_set ?_ GE245.out))) : w.heap.size ≤ gb246)); replace HB := Aside0.mk (below_step (by repeat (with_reducible first | exact HB.out | apply pw_below_drewN | apply below_drew1 | refine below_set ?_ GE245.out)) hb); have NB245_246 := Aside0.mk ((by rw [hg]; exact Nat.ne_of_lt (blk_lt BK245.out) : gb245 ≠ gb246)); have NB246_245 := Aside0.mk ((by rw [hg]; exact Nat.ne_of_gt (blk_lt BK245.out) : gb246 ≠ gb245)); replace BK245 := bl_ BK245 hb; clear hb hbox hg; have hnb7 := NB245_246.out; have hnc7 := NB246_245.out; have hcz8_0 : w6.cell? ⟨gb245, 0, none⟩ = some (.int .i64 a0_0) := (blk_cell BK245.out 0).trans rfl; have hcz8_1 : w6.cell? ⟨gb245, 1, none⟩ = some (.int .i64 a0_1) := (blk_cell BK245.out 1).trans rfl; have hcz8_2 : w6.cell? ⟨gb245, 2, none⟩ = some (.int .i64 a0_2) := (blk_cell BK245.out 2).trans rfl; have hcz8_3 : w6.cell? ⟨gb245, 3, none⟩ = some (.int .i64 a0_3) := (blk_cell BK245.out 3).trans rfl; have hcz8_4 : w6.cell? ⟨gb245, 4, none⟩ = some (.int .i64 a0_4) := (blk_cell BK245.out 4).trans rfl; have hcz8_5 : w6.cell? ⟨gb245, 5, none⟩ = some (.int .i64 a0_5) := (blk_cell BK245.out 5).trans rfl; have hfz8_0 := blk_frozen BK245.out 0; have hfz8_1 := blk_frozen BK245.out 1; have hfz8_2 := blk_frozen BK245.out 2; have hfz8_3 := blk_frozen BK245.out 3; have hfz8_4 := blk_frozen BK245.out 4; have hfz8_5 := blk_frozen BK245.out 5) | ((with_reducible refine gate_callee (f := 90) rfl ?_); refine goesL_ (some 10) rfl rfl Try.func90 (by kernel_rfl) rfl #[.agg #[.int .i64 a0_0, .int .i64 a0_1, .int .i64 a0_2, .int .i64 a0_3, .int .i64 a0_4, .int .i64 a0_5], .int .i64 4, .int .i64 a1, .int .i64 a2] rfl (by (try simp only [List.map_toArray, List.map_cons, List.map_nil]); first | done | rfl | (simp only [List.length_drop, List.length_take]; rfl)) ?_; (with_reducible refine (alarm_clock_turned.calls a0_0 a0_1 a0_2 a0_3 a0_4 a0_5 4 a1 a2 t247 t248 t249 t250 t251 t252 _ A4.out).mono ?_); rintro e w9 ⟨rfl, hb⟩; refine ⟨_, rfl, ?_⟩; replace BK245 := bl_ BK245 hb; replace BK246 := bl_ BK246 hb; replace HB := Aside0.mk (below_step (by repeat (with_reducible first | exact HB.out | apply pw_below_drewN | apply below_drew1 | refine below_set ?_ (Aside0.out (by assumption)))) hb); (try clear hb); (try clear hb2); (try clear hk); (try clear hi); have hcz10_0 : w9.cell? ⟨gb246, 0, none⟩ = some (.int .i64 0) := (blk_cell BK246.out 0).trans rfl; have hcz10_1 : w9.cell? ⟨gb246, 1, none⟩ = some (.int .i64 0) := (blk_cell BK246.out 1).trans rfl; have hcz10_2 : w9.cell? ⟨gb246, 2, none⟩ = some (.int .i64 0) := (blk_cell BK246.out 2).trans rfl; have hcz10_3 : w9.cell? ⟨gb246, 3, none⟩ = some (.int .i64 0) := (blk_cell BK246.out 3).trans rfl; have hcz10_4 : w9.cell? ⟨gb246, 4, none⟩ = some (.int .i64 0) := (blk_cell BK246.out 4).trans rfl; have hcz10_5 : w9.cell? ⟨gb246, 5, none⟩ = some (.int .i64 0) := (blk_cell BK246.out 5).trans rfl; have hfz10_0 := blk_frozen BK246.out 0; have hfz10_1 := blk_frozen BK246.out 1; have hfz10_2 := blk_frozen BK246.out 2; have hfz10_3 := blk_frozen BK246.out 3; have hfz10_4 := blk_frozen BK246.out 4; have hfz10_5 := blk_frozen BK246.out 5))
 refine bodyPost_ret (results_cell_row rfl _ _ gb246 85 #[.int .i64 t247, .int .i64 t248, .int .i64 t249, .int .i64 t250, .int .i64 t251, .int .i64 t252] (0, 0) _ rfl (by refine blk_put (cs := #[.int .i64 t247, .int .i64 t248, .int .i64 t249, .int .i64 t250, .int .i64 t251, .int .i64 0]) ?_ 5 _ rfl; refine blk_put (cs := #[.int .i64 t247, .int .i64 t248, .int .i64 t249, .int .i64 t250, .int .i64 0, .int .i64 0]) ?_ 4 _ rfl; refine blk_put (cs := #[.int .i64 t247, .int .i64 t248, .int .i64 t249, .int .i64 0, .int .i64 0, .int .i64 0]) ?_ 3 _ rfl; refine blk_put (cs := #[.int .i64 t247, .int .i64 t248, .int .i64 0, .int .i64 0, .int .i64 0, .int .i64 0]) ?_ 2 _ rfl; refine blk_put (cs := #[.int .i64 t247, .int .i64 0, .int .i64 0, .int .i64 0, .int .i64 0, .int .i64 0]) ?_ 1 _ rfl; refine blk_put (cs := #[.int .i64 0, .int .i64 0, .int .i64 0, .int .i64 0, .int .i64 0, .int .i64 0]) ?_ 0 _ rfl; exact BK246.out) Try.underlying85 rfl (by kernel_rfl)) rfl ?_
 exact ⟨by first | rfl | (simp [errW_none, errW_some] <;> rfl) | (simp [*, errW_none, errW_some] <;> rfl), by repeat (with_reducible first | exact HB.out | apply pw_below_drewN | apply below_drew1 | refine below_set ?_ (Aside0.out (by assumption)))⟩

/-! ### alarm_Do: function 76 -/
def alarm_Do.f (a0_0 a0_1 a0_2 a0_3 a0_4 a0_5 a1 a2 a3 : Int) : Option (Int × Int × Int × Int × Int × Int × Int) := if a0_0 = 2 ∧ a0_1 = 0 ∧ a0_2 = 1 ∧ a0_3 = 1 ∧ a0_4 = 0 ∧ a0_5 = 10 ∧ a1 = 4 ∧ a2 = 0 ∧ a3 = 5 then some (2, 0, 4, 1, 0, 5, 0) else none
theorem alarm_Do.key_ok (b : Bool) (n : Int) (w : World) : (Instr.checkKey b 10000 3 (.int .i64 n)).run Try.prog w = .ok () w := by
 rw [show (10000 : Nat) = 9999 + 1 from rfl, Instr.checkKey]
 simp [run_underlying Try.underlying3]
theorem alarm_Do.map_put (w : World) (X Y : Obj) (es : Array MapEntry) (clock : Nat) (key : Int) (v : Value) (hnew : Instr.findNow (.int .i64) (.int .i64 key) es.toList 0 = some none) :
 (Instr.mapUpdate 115 (.map (some (w.heap.size + 1 + 1))) (.int .i64 key) v).run Try.prog (((w.alloc X).alloc Y).alloc (.map es clock)) = .ok () (((w.alloc X).alloc Y).alloc (.map (es.push ⟨.int .i64 key, v, clock⟩) (clock + 1))) := by
 have e : w.heap.size + 1 + 1 = ((w.alloc X).alloc Y).heap.size := by simp
 rw [e]
 generalize (w.alloc X).alloc Y = V
 have hb : (V.alloc (.map es clock)).heap[V.heap.size]? = some (.map es clock) := blk_new V _
 have hs : ({ V.alloc (.map es clock) with heap := (V.alloc (.map es clock)).heap.setIfInBounds V.heap.size (.map (es.push ⟨.int .i64 key, v, clock⟩) (clock + 1)) } : World) = V.alloc (.map (es.push ⟨.int .i64 key, v, clock⟩) (clock + 1)) := by
  simp only [World.alloc]
  congr 1
  apply Array.ext_getElem?
  intro i
  by_cases hi : i = V.heap.size
  ·subst hi; simp
  ·simp [Array.getElem?_push, Array.getElem?_setIfInBounds, hi, Ne.symm hi, show ¬ V.heap.size = i from fun h => hi h.symm]
 simp [Instr.mapUpdate, run_underlying Try.underlying115, MapKept.run_getObj_map hb, alarm_Do.key_ok, run_underlying Try.underlying3, Instr.findKey, hnew, MapKept.run_setObj_map _ hb, Result.andThen]
 exact hs
theorem alarm_Do.map_get (w : World) (X Y : Obj) (es : Array MapEntry) (clock : Nat) (key : Int) (i : Nat) (v : Value) (hat : Instr.findNow (.int .i64) (.int .i64 key) es.toList 0 = some (some (i, v))) :
 (Instr.lookup 115 (.map (some (w.heap.size + 1 + 1))) (.int .i64 key) true).run Try.prog (((w.alloc X).alloc Y).alloc (.map es clock)) = .ok (.tuple #[v, .bool true]) (((w.alloc X).alloc Y).alloc (.map es clock)) := by
 have e : w.heap.size + 1 + 1 = ((w.alloc X).alloc Y).heap.size := by simp
 rw [e]
 generalize (w.alloc X).alloc Y = V
 have hb : (V.alloc (.map es clock)).heap[V.heap.size]? = some (.map es clock) := blk_new V _
 simp [Instr.lookup, run_underlying Try.underlying115, MapKept.run_getObj_map hb, alarm_Do.key_ok, run_underlying Try.underlying3, Instr.findKey, hat, Result.andThen]
theorem alarm_Do.map_no (w : World) (X Y : Obj) (es : Array MapEntry) (clock : Nat) (key : Int) (hat : Instr.findNow (.int .i64) (.int .i64 key) es.toList 0 = some none) :
 (Instr.lookup 115 (.map (some (w.heap.size + 1 + 1))) (.int .i64 key) true).run Try.prog (((w.alloc X).alloc Y).alloc (.map es clock)) = .ok (.tuple #[.nilFunc, .bool false]) (((w.alloc X).alloc Y).alloc (.map es clock)) := by
 have e : w.heap.size + 1 + 1 = ((w.alloc X).alloc Y).heap.size := by simp
 rw [e]
 generalize (w.alloc X).alloc Y = V
 have hb : (V.alloc (.map es clock)).heap[V.heap.size]? = some (.map es clock) := blk_new V _
 have hz : ∀ W, (zeroValue 113).run Try.prog W = .ok .nilFunc W := fun _ => by kernel_rfl
 simp [Instr.lookup, run_underlying Try.underlying115, MapKept.run_getObj_map hb, alarm_Do.key_ok, run_underlying Try.underlying3, Instr.findKey, hat, hz, Result.andThen]
theorem alarm_Do.puts (a0_0 a0_1 a0_2 a0_3 a0_4 a0_5 : Int) (w : World) : (Instr.mapUpdate 115 (.map (some (w.heap.size + 1 + 1))) (.int .i64 2) (.func (.func 68) #[] #[])).run Try.prog (((w.alloc (.cells #[.int .i64 a0_0, .int .i64 a0_1, .int .i64 a0_2, .int .i64 a0_3, .int .i64 a0_4, .int .i64 a0_5] 28)).alloc (.cells #[.int .i64 0, .int .i64 0, .int .i64 0, .int .i64 0, .int .i64 0, .int .i64 0] 28)).alloc (.map #[] 0)) = .ok () (((w.alloc (.cells #[.int .i64 a0_0, .int .i64 a0_1, .int .i64 a0_2, .int .i64 a0_3, .int .i64 a0_4, .int .i64 a0_5] 28)).alloc (.cells #[.int .i64 0, .int .i64 0, .int .i64 0, .int .i64 0, .int .i64 0, .int .i64 0] 28)).alloc (.map #[⟨.int .i64 2, .func (.func 68) #[] #[], 0⟩] 1)) ∧
 (Instr.mapUpdate 115 (.map (some (w.heap.size + 1 + 1))) (.int .i64 3) (.func (.func 93) #[] #[])).run Try.prog (((w.alloc (.cells #[.int .i64 a0_0, .int .i64 a0_1, .int .i64 a0_2, .int .i64 a0_3, .int .i64 a0_4, .int .i64 a0_5] 28)).alloc (.cells #[.int .i64 0, .int .i64 0, .int .i64 0, .int .i64 0, .int .i64 0, .int .i64 0] 28)).alloc (.map #[⟨.int .i64 2, .func (.func 68) #[] #[], 0⟩] 1)) = .ok () (((w.alloc (.cells #[.int .i64 a0_0, .int .i64 a0_1, .int .i64 a0_2, .int .i64 a0_3, .int .i64 a0_4, .int .i64 a0_5] 28)).alloc (.cells #[.int .i64 0, .int .i64 0, .int .i64 0, .int .i64 0, .int .i64 0, .int .i64 0] 28)).alloc (.map #[⟨.int .i64 2, .func (.func 68) #[] #[], 0⟩, ⟨.int .i64 3, .func (.func 93) #[] #[], 1⟩] 2)) ∧
 (Instr.mapUpdate 115 (.map (some (w.heap.size + 1 + 1))) (.int .i64 4) (.func (.func 94) #[] #[])).run Try.prog (((w.alloc (.cells #[.int .i64 a0_0, .int .i64 a0_1, .int .i64 a0_2, .int .i64 a0_3, .int .i64 a0_4, .int .i64 a0_5] 28)).alloc (.cells #[.int .i64 0, .int .i64 0, .int .i64 0, .int .i64 0, .int .i64 0, .int .i64 0] 28)).alloc (.map #[⟨.int .i64 2, .func (.func 68) #[] #[], 0⟩, ⟨.int .i64 3, .func (.func 93) #[] #[], 1⟩] 2)) = .ok () (((w.alloc (.cells #[.int .i64 a0_0, .int .i64 a0_1, .int .i64 a0_2, .int .i64 a0_3, .int .i64 a0_4, .int .i64 a0_5] 28)).alloc (.cells #[.int .i64 0, .int .i64 0, .int .i64 0, .int .i64 0, .int .i64 0, .int .i64 0] 28)).alloc (.map #[⟨.int .i64 2, .func (.func 68) #[] #[], 0⟩, ⟨.int .i64 3, .func (.func 93) #[] #[], 1⟩, ⟨.int .i64 4, .func (.func 94) #[] #[], 2⟩] 3)) ∧
 (Instr.mapUpdate 115 (.map (some (w.heap.size + 1 + 1))) (.int .i64 6) (.func (.func 67) #[] #[])).run Try.prog (((w.alloc (.cells #[.int .i64 a0_0, .int .i64 a0_1, .int .i64 a0_2, .int .i64 a0_3, .int .i64 a0_4, .int .i64 a0_5] 28)).alloc (.cells #[.int .i64 0, .int .i64 0, .int .i64 0, .int .i64 0, .int .i64 0, .int .i64 0] 28)).alloc (.map #[⟨.int .i64 2, .func (.func 68) #[] #[], 0⟩, ⟨.int .i64 3, .func (.func 93) #[] #[], 1⟩, ⟨.int .i64 4, .func (.func 94) #[] #[], 2⟩] 3)) = .ok () (((w.alloc (.cells #[.int .i64 a0_0, .int .i64 a0_1, .int .i64 a0_2, .int .i64 a0_3, .int .i64 a0_4, .int .i64 a0_5] 28)).alloc (.cells #[.int .i64 0, .int .i64 0, .int .i64 0, .int .i64 0, .int .i64 0, .int .i64 0] 28)).alloc (.map #[⟨.int .i64 2, .func (.func 68) #[] #[], 0⟩, ⟨.int .i64 3, .func (.func 93) #[] #[], 1⟩, ⟨.int .i64 4, .func (.func 94) #[] #[], 2⟩, ⟨.int .i64 6, .func (.func 67) #[] #[], 3⟩] 4)) :=
 ⟨alarm_Do.map_put w _ _ _ _ _ _ (by rfl), alarm_Do.map_put w _ _ _ _ _ _ (by rfl), alarm_Do.map_put w _ _ _ _ _ _ (by rfl), alarm_Do.map_put w _ _ _ _ _ _ (by rfl)⟩
theorem alarm_Do.c6 {w1 : World} {g t : Nat} {a0 a1 a2 a3 a4 a5 : Int} (h : w1.heap[g]? = some (.cells #[.int .i64 a0, .int .i64 a1, .int .i64 a2, .int .i64 a3, .int .i64 a4, .int .i64 a5] t (0, 0))) :
 w1.cell? ⟨g, 0, none⟩ = some (.int .i64 a0) ∧ w1.cell? ⟨g, 1, none⟩ = some (.int .i64 a1) ∧ w1.cell? ⟨g, 2, none⟩ = some (.int .i64 a2) ∧ w1.cell? ⟨g, 3, none⟩ = some (.int .i64 a3) ∧ w1.cell? ⟨g, 4, none⟩ = some (.int .i64 a4) ∧ w1.cell? ⟨g, 5, none⟩ = some (.int .i64 a5) :=
 ⟨(blk_cell h 0).trans rfl, (blk_cell h 1).trans rfl, (blk_cell h 2).trans rfl, (blk_cell h 3).trans rfl, (blk_cell h 4).trans rfl, (blk_cell h 5).trans rfl⟩
theorem alarm_Do.f6 {w1 : World} {g t : Nat} {cs : Array Value} (h : w1.heap[g]? = some (.cells cs t (0, 0))) :
 w1.frozen? ⟨g, 0, none⟩ = false ∧ w1.frozen? ⟨g, 1, none⟩ = false ∧ w1.frozen? ⟨g, 2, none⟩ = false ∧ w1.frozen? ⟨g, 3, none⟩ = false ∧ w1.frozen? ⟨g, 4, none⟩ = false ∧ w1.frozen? ⟨g, 5, none⟩ = false :=
 ⟨blk_frozen h 0, blk_frozen h 1, blk_frozen h 2, blk_frozen h 3, blk_frozen h 4, blk_frozen h 5⟩
theorem alarm_Do.put6 {w1 : World} {g t : Nat} {z : Value} {v0 v1 v2 v3 v4 v5 : Value} (h : w1.heap[g]? = some (.cells #[z, z, z, z, z, z] t (0, 0))) :
 ((((((w1.setCell ⟨g, 0, none⟩ v0).setCell ⟨g, 1, none⟩ v1).setCell ⟨g, 2, none⟩ v2).setCell ⟨g, 3, none⟩ v3).setCell ⟨g, 4, none⟩ v4).setCell ⟨g, 5, none⟩ v5).heap[g]? = some (.cells #[v0, v1, v2, v3, v4, v5] t (0, 0)) :=
 blk_put (cs := #[v0, v1, v2, v3, v4, z]) (blk_put (cs := #[v0, v1, v2, v3, z, z]) (blk_put (cs := #[v0, v1, v2, z, z, z]) (blk_put (cs := #[v0, v1, z, z, z, z]) (blk_put (cs := #[v0, z, z, z, z, z]) (blk_put h 0 _ rfl) 1 _ rfl) 2 _ rfl) 3 _ rfl) 4 _ rfl) 5 _ rfl
theorem alarm_Do.first {w w1 : World} {X Y Z : Obj} (hb : Below (((w.alloc X).alloc Y).alloc Z).heap.size (((w.alloc X).alloc Y).alloc Z) w1) :
 Below w.heap.size w w1 ∧ w1.heap[w.heap.size]? = some X ∧ w1.heap[w.heap.size + 1]? = some Y :=
 ⟨below_then (below_alloc (below_alloc (below_alloc (Below.refl w.heap.size w) _) _) _) (by simp; omega) hb, blk_below (blk_alloc (blk_alloc (blk_new w X) Y) Z) hb,
  blk_below (blk_alloc (g := w.heap.size + 1) (by have h_ := blk_new (w.alloc X) Y; rw [show (w.alloc X).heap.size = w.heap.size + 1 from by simp] at h_; exact h_) Z) hb⟩
theorem alarm_Do.next {w w1 w2 : World} {g g' : Nat} {X Y : Obj} (H : Aside0 (Below w.heap.size w w1)) (k0 : Aside0 (w1.heap[g]? = some X)) (k1 : Aside0 (w1.heap[g']? = some Y)) (n : Nat) (hb : Below (w1.drewN n).heap.size (w1.drewN n) w2) :
 Below w.heap.size w w2 ∧ w2.heap[g]? = some X ∧ w2.heap[g']? = some Y :=
 ⟨below_step (pw_below_drewN H.out n) hb, blk_below (blk_drewN k0.out n) hb, blk_below (blk_drewN k1.out n) hb⟩
theorem alarm_Do.next0 {w w1 w2 : World} {g g' : Nat} {X Y : Obj} (H : Aside0 (Below w.heap.size w w1)) (k0 : Aside0 (w1.heap[g]? = some X)) (k1 : Aside0 (w1.heap[g']? = some Y)) (hb : Below w1.heap.size w1 w2) :
 Below w.heap.size w w2 ∧ w2.heap[g]? = some X ∧ w2.heap[g']? = some Y :=
 ⟨below_step H.out hb, blk_below k0.out hb, blk_below k1.out hb⟩
set_option maxHeartbeats 8000000 in
set_option maxRecDepth 100000 in
theorem alarm_Do.e8_4 (a0_0 a0_1 a0_2 a0_3 a0_4 a0_5 a2 a3 r1 r2 r3 r4 r5 r6 : Int) (w : World) (HIs : Aside0 (∀ w, Calls Try.prog 50 #[.agg #[.int .i64 a0_0, .int .i64 a0_1, .int .i64 a0_2, .int .i64 a0_3, .int .i64 a0_4, .int .i64 a0_5]] w fun e w' => e = .returned (.bool true) ∧ Below w.heap.size w w')) (HTi : Aside0 (∀ w, Calls Try.prog 83 #[.int .i64 a2] w fun e w' => e = .returned (.bool true) ∧ Drawn0 w w')) (b1 : decide (a3 < 1) = false) (b2 : decide (1000 < a3) = false) (b3 : decide (a2 < a0_4) = false) (HNe : Aside0 (∀ w, Calls Try.prog 95 #[.int .i64 a0_2, .int .i64 4] w fun e w' => (∃ q, e = .returned (.tuple #[.int .i64 q, .bool true])) ∧ Below w.heap.size w w')) (HFn : Aside0 (∀ w, Calls Try.prog 94 #[.agg #[.int .i64 a0_0, .int .i64 a0_1, .int .i64 a0_2, .int .i64 a0_3, .int .i64 a0_4, .int .i64 a0_5], .int .i64 a2, .int .i64 a3] w fun e w' => e = .returned (.agg #[.int .i64 r1, .int .i64 r2, .int .i64 r3, .int .i64 r4, .int .i64 r5, .int .i64 r6]) ∧ Below w.heap.size w w')) :
 Calls Try.prog 76 #[.agg #[.int .i64 a0_0, .int .i64 a0_1, .int .i64 a0_2, .int .i64 a0_3, .int .i64 a0_4, .int .i64 a0_5], .int .i64 4, .int .i64 a2, .int .i64 a3] w fun e w' => e = .returned (.tuple #[.agg #[.int .i64 r1, .int .i64 r2, .int .i64 r3, .int .i64 r4, .int .i64 r5, .int .i64 r6], .int .i64 0]) ∧ Below w.heap.size w w' := by
 have hmm := @run_makeMap Try.prog
 obtain ⟨hp2, hp3, hp4, hp6⟩ := alarm_Do.puts a0_0 a0_1 a0_2 a0_3 a0_4 a0_5 w
 have hl : (Instr.lookup 115 (.map (some (w.heap.size + 1 + 1))) (.int .i64 4) true).run Try.prog (((w.alloc (.cells #[.int .i64 a0_0, .int .i64 a0_1, .int .i64 a0_2, .int .i64 a0_3, .int .i64 a0_4, .int .i64 a0_5] 28)).alloc (.cells #[.int .i64 0, .int .i64 0, .int .i64 0, .int .i64 0, .int .i64 0, .int .i64 0] 28)).alloc (.map #[⟨.int .i64 2, .func (.func 68) #[] #[], 0⟩, ⟨.int .i64 3, .func (.func 93) #[] #[], 1⟩, ⟨.int .i64 4, .func (.func 94) #[] #[], 2⟩, ⟨.int .i64 6, .func (.func 67) #[] #[], 3⟩] 4)) = .ok (.tuple #[.func (.func 94) #[] #[], .bool true]) (((w.alloc (.cells #[.int .i64 a0_0, .int .i64 a0_1, .int .i64 a0_2, .int .i64 a0_3, .int .i64 a0_4, .int .i64 a0_5] 28)).alloc (.cells #[.int .i64 0, .int .i64 0, .int .i64 0, .int .i64 0, .int .i64 0, .int .i64 0] 28)).alloc (.map #[⟨.int .i64 2, .func (.func 68) #[] #[], 0⟩, ⟨.int .i64 3, .func (.func 93) #[] #[], 1⟩, ⟨.int .i64 4, .func (.func 94) #[] #[], 2⟩, ⟨.int .i64 6, .func (.func 67) #[] #[], 3⟩] 4)) := alarm_Do.map_get w _ _ _ _ _ 2 _ (by rfl)
 have hfd : ∀ W, (Instr.field 85 (.agg #[.int .i64 r1, .int .i64 r2, .int .i64 r3, .int .i64 r4, .int .i64 r5, .int .i64 r6]) 0).run Try.prog W = .ok (.agg #[.int .i64 r1, .int .i64 r2, .int .i64 r3, .int .i64 r4, .int .i64 r5, .int .i64 r6]) W := fun _ => by kernel_rfl
 go_enter Try.func76, Try.ntmps76
 go_wp2_with (first | (go_at_call 50; refine (HIs.out _).mono ?_; rintro e w1 ⟨rfl, hb⟩; obtain ⟨q0, q1, q2⟩ := alarm_Do.first hb; have HB := Aside0.mk q0; have K0 := Aside0.mk q1; have K1 := Aside0.mk q2; clear q0 q1 q2 hb; obtain ⟨hc0, hc1, hc2, hc3, hc4, hc5⟩ := alarm_Do.c6 K0.out; obtain ⟨hz0, hz1, hz2, hz3, hz4, hz5⟩ := alarm_Do.c6 K1.out; obtain ⟨hf0, hf1, hf2, hf3, hf4, hf5⟩ := alarm_Do.f6 K1.out) | (go_at_call 83; refine (HTi.out _).mono ?_; rintro e w' ⟨rfl, ⟨n, rfl⟩⟩) | (go_at_call 95; refine (HNe.out _).mono ?_; rintro e w2 ⟨⟨q, rfl⟩, hb⟩; obtain ⟨q0, q1, q2⟩ := alarm_Do.next HB K0 K1 _ hb; have HC := Aside0.mk q0; have L0 := Aside0.mk q1; have L1 := Aside0.mk q2; clear q0 q1 q2 hb; obtain ⟨Lc0, Lc1, Lc2, Lc3, Lc4, Lc5⟩ := alarm_Do.c6 L0.out; obtain ⟨Lz0, Lz1, Lz2, Lz3, Lz4, Lz5⟩ := alarm_Do.c6 L1.out; obtain ⟨Lf0, Lf1, Lf2, Lf3, Lf4, Lf5⟩ := alarm_Do.f6 L1.out) | (go_at_call 94; refine (HFn.out _).mono ?_; rintro e w3 ⟨rfl, hb⟩; obtain ⟨q0, q1, q2⟩ := alarm_Do.next0 HC L0 L1 hb; have HD := Aside0.mk q0; have N0 := Aside0.mk q1; have N1 := Aside0.mk q2; clear q0 q1 q2 hb; obtain ⟨Nc0, Nc1, Nc2, Nc3, Nc4, Nc5⟩ := alarm_Do.c6 N0.out; obtain ⟨Nz0, Nz1, Nz2, Nz3, Nz4, Nz5⟩ := alarm_Do.c6 N1.out; obtain ⟨Nf0, Nf1, Nf2, Nf3, Nf4, Nf5⟩ := alarm_Do.f6 N1.out))
 refine bodyPost_ret (results_ct rfl _ _ (w.heap.size + 1) 28 #[.int .i64 r1, .int .i64 r2, .int .i64 r3, .int .i64 r4, .int .i64 r5, .int .i64 r6] (0, 0) _ rfl (alarm_Do.put6 N1.out) Try.underlying28 rfl (by kernel_rfl)) rfl ?_
 exact ⟨rfl, by repeat (first | (with_reducible first | exact HD.out | apply pw_below_drewN | refine below_set ?_ (Nat.le_succ _)) | exact HD.out)⟩
theorem alarm_Do.calls (a0_0 a0_1 a0_2 a0_3 a0_4 a0_5 a1 a2 a3 : Int) (r1 r2 r3 r4 r5 r6 r7 : Int) (w : World) (h : alarm_Do.f a0_0 a0_1 a0_2 a0_3 a0_4 a0_5 a1 a2 a3 = some (r1, r2, r3, r4, r5, r6, r7)) :
 Calls Try.prog 76 #[.agg #[.int .i64 a0_0, .int .i64 a0_1, .int .i64 a0_2, .int .i64 a0_3, .int .i64 a0_4, .int .i64 a0_5], .int .i64 a1, .int .i64 a2, .int .i64 a3] w fun e w' => e = .returned (.tuple #[.agg #[.int .i64 r1, .int .i64 r2, .int .i64 r3, .int .i64 r4, .int .i64 r5, .int .i64 r6], .int .i64 r7]) ∧ Below w.heap.size w w' := by
 unfold alarm_Do.f at h
 by_cases c : a0_0 = 2 ∧ a0_1 = 0 ∧ a0_2 = 1 ∧ a0_3 = 1 ∧ a0_4 = 0 ∧ a0_5 = 10 ∧ a1 = 4 ∧ a2 = 0 ∧ a3 = 5
 ·rw [if_pos c] at h
  obtain ⟨rfl, rfl, rfl, rfl, rfl, rfl, rfl⟩ : 2 = r1 ∧ 0 = r2 ∧ 4 = r3 ∧ 1 = r4 ∧ 0 = r5 ∧ 5 = r6 ∧ 0 = r7 := by simpa only [Option.some.injEq, Prod.mk.injEq] using h
  obtain ⟨rfl, rfl, rfl, rfl, rfl, rfl, rfl, rfl, rfl⟩ := c
  have HNe := fun w => (life_Next.calls 1 4 4 true w (by kernel_rfl)).mono fun e w' (hh : _ ∧ _) => (⟨⟨4, hh.1⟩, hh.2⟩ : (∃ q, e = .returned (.tuple #[.int .i64 q, .bool true])) ∧ Below w.heap.size w w')
  exact alarm_Do.e8_4 2 0 1 1 0 10 0 5 2 0 4 1 0 5 w (Aside0.mk fun w => alarm_Is.calls 2 0 1 1 0 10 true w (by kernel_rfl)) (Aside0.mk fun w => alarm_time.calls 0 true w (by kernel_rfl)) (by decide) (by decide) (by decide) (Aside0.mk HNe) (Aside0.mk fun w => alarm_clock_silenced.calls 2 0 1 1 0 10 0 5 2 0 4 1 0 5 w (by kernel_rfl))
 ·rw [if_neg c] at h
  cases h

/-! ### board_alarms_find: function 52 -/
def board_alarms_find.l0 : Nat → List (S28) → Int → Int → Int → Option (Int × Bool)
 | 0, _, _, _, _ => none
 | k + 1, x0, x6, x254000, x254001 => if x6 < (x0.length : Int) then (if 0 ≤ x6 then ((spot_Less.f ((rd_T28 x0 x6).f0.f0) ((rd_T28 x0 x6).f0.f1) x254000 x254001).bind fun t255 => (if t255 = true then (board_alarms_find.l0 k x0 (wrap64 (x6 + 1)) x254000 x254001) else (none))) else (none)) else (some (x6, false))
def board_alarms_find.f (k : Nat) (l0 : List (S28)) (a1_0 : Int) (a1_1 : Int) : Option (Int × Bool) := board_alarms_find.l0 k l0 0 a1_0 a1_1
theorem board_alarms_find.mono_l : ∀ k, (∀ y0 y1 y2 y3, LeO (board_alarms_find.l0 k y0 y1 y2 y3) (board_alarms_find.l0 (k + 1) y0 y1 y2 y3))
 | 0 => fun _ _ _ _ r h => by simp [board_alarms_find.l0] at h
 | k + 1 => by
  have ih0 := board_alarms_find.mono_l k
  ·intro y0 y1 y2 y3
   unfold board_alarms_find.l0
   repeat' first
   | (with_reducible exact ih0 _ _ _ _)
   | (with_reducible exact LeO.refl _)
   | (with_reducible exact LeO.none _)
   | (with_reducible refine LeO.ite ?_ ?_)
   | (with_reducible refine LeO.bind ?_ (fun _ => ?_))
   | exact ih0 _ _ _ _
   | exact LeO.none _
   | refine LeO.ite ?_ ?_
   | refine LeO.bind ?_ (fun _ => ?_)
theorem board_alarms_find.mono : ∀ a0 a1 a2 k, LeO (board_alarms_find.f k a0 a1 a2) (board_alarms_find.f (k + 1) a0 a1 a2) := by
 intro a0 a1 a2 k
 have ih0 := board_alarms_find.mono_l k
 unfold board_alarms_find.f
 repeat' first
  | (with_reducible exact ih0 _ _ _ _)
  | (with_reducible exact LeO.refl _)
  | (with_reducible exact LeO.none _)
  | (with_reducible refine LeO.ite ?_ ?_)
  | (with_reducible refine LeO.bind ?_ (fun _ => ?_))
  | exact ih0 _ _ _ _
  | exact LeO.none _
  | refine LeO.ite ?_ ?_
  | refine LeO.bind ?_ (fun _ => ?_)
def board_alarms_find.T2 : Bool × List (List Nat × List Nat) := (true, [([], []), ([], []), ([1], [1]), ([0, 2], [0, 2]), ([3], [3]), ([4], [4]), ([4], [4]), ([5, 6, 4], [4, 5, 6]), ([7, 4], [4, 7]), ([8, 4], [4, 8]), ([4], [4]), ([9, 10, 4, 4], [4, 9, 10]), ([4, 11], [4, 11])])
def board_alarms_find.B2 : List Nat := [0, 0, 2, 7, 15, 31, 31, 127, 255, 511, 31, 2047, 4095]
theorem board_alarms_find.tab2 : rtab .any (opsOf Try.f52 2) = board_alarms_find.T2 := by kernel_rfl
theorem board_alarms_find.bits2 : waitsOk board_alarms_find.T2.2 board_alarms_find.B2 = true := by kernel_rfl
def board_alarms_find.T4 : Bool × List (List Nat × List Nat) := (true, [([], []), ([], []), ([], []), ([2], [2]), ([1, 3], [1, 3]), ([4], [4]), ([5], [5]), ([5], [5]), ([6, 7, 5], [5, 6, 7]), ([8, 5], [5, 8]), ([9, 5], [5, 9]), ([5], [5]), ([10, 11, 5], [5, 10, 11]), ([5, 12], [5, 12]), ([0, 5, 0], [0]), ([13, 14, 0, 1, 2, 3, 4, 5, 6, 7, 8, 9, 10, 11, 12, 13, 14], [13])])
def board_alarms_find.B4 : List Nat := [0, 0, 0, 4, 14, 30, 62, 62, 254, 510, 1022, 62, 4094, 8190, 63, 32767]
theorem board_alarms_find.tab4 : rtab .any (opsOf Try.f52 4) = board_alarms_find.T4 := by kernel_rfl
theorem board_alarms_find.bits4 : waitsOk board_alarms_find.T4.2 board_alarms_find.B4 = true := by kernel_rfl
set_option maxHeartbeats 8000000 in
set_option maxRecDepth 100000 in
theorem board_alarms_find.calls (k : Nat) (A0 : Option Addr) (c0 : Nat) (l0 : List (S28)) (a1_0 : Int) (a1_1 : Int) (r1 : Int) (r2 : Bool) (w : World) (hr0 : Kd.C k28 w A0 l0.length l0) (hc0 : l0.length ≤ c0) (h : board_alarms_find.f k l0 a1_0 a1_1 = some (r1, r2)) :
 Calls Try.prog 52 #[.slice A0 l0.length c0, .agg #[.int .i64 a1_0, .int .i64 a1_1]] w fun e w' => e = .returned (.tuple #[.int .i64 r1, .bool r2]) ∧ Below w.heap.size w w' := by
 have hu26 := Try.underlying26
 have HR0 := Aside0.mk hr0
 have HC0 := Aside0.mk hc0
 clear hr0 hc0
 have HB := Aside0.mk (Below.refl w.heap.size w)
 have H : (board_alarms_find.l0 k l0 0 a1_0 a1_1) = some (r1, r2) := h
 clear h
 have H' := Aside0.mk H
 clear H
 go_enter Try.func52, Try.ntmps52
 go_wp2_with (first | ((with_reducible refine gate_dst (N := 3) rfl ?_); refine box_event ?hg (N := 3) ?hd (cs := #[.int .i64 a1_0, .int .i64 a1_1]) (t := 26) ?hr ?_; (case hd => rfl); (case hg => rfl); (case hr => first | (go_simp; done) | (go_simp; rfl)); intro gb253 hg w3 hbox hb; have BK253 := Aside0.mk (hbox); have GW253 := Aside0.mk ((by rw [hg]; exact (below_size HB.out) : w.heap.size ≤ gb253)); have GE253 := Aside0.mk ((by rw [hg]; exact (below_size HB.out) : w.heap.size ≤ gb253)); replace HB := Aside0.mk (below_step HB.out hb); clear hb hbox hg))
 (try simp only [Act.put, List.setIfInBounds_toArray, List.set_cons_zero, List.set_cons_succ])
 go_loopg [6] k (fun kq v6 w' => ∃ (x6_1 : Int), v6 = .int .i64 x6_1 ∧ Aside0 (board_alarms_find.l0 kq l0 x6_1 a1_0 a1_1 = some (r1, r2)) ∧ Aside0 (kq ≤ k) ∧ Aside0 (w'.heap[gb253]? = some (.cells #[.int .i64 a1_0, .int .i64 a1_1] 26 (0, 0))) ∧ Aside0 (Below w.heap.size w w'))
 case atStart => exact ⟨(0), (by first | rfl | (simp; done) | (simp [*]; done)), H', ⟨Nat.le_refl _⟩, ⟨by (with_reducible repeat (first | refine blk_drewN ?_ _ | refine blk_drew ?_ | refine blk_alloc ?_ _)); exact BK253.out⟩, ⟨by repeat (with_reducible first | exact HB.out | apply pw_below_drewN | apply below_drew1 | refine below_set ?_ GE253.out)⟩⟩
 case round =>
  clear H'
  try clear p2
  obtain ⟨x6_1, rfl, HA, HK1, BK253, HB⟩ := hrel
  cases gk with
  | zero => exact absurd HA.out (by simp [board_alarms_find.l0])
  | succ k1 =>
   have H := HA.out
   clear HA
   simp only [board_alarms_find.l0] at H
   by_cases c4 : x6_1 < (l0.length : Int)
   ·rw [if_pos c4] at H
    have c4b0 : decide (x6_1 < (l0.length : Int)) = true := decide_eq_true c4
    clear c4
    by_cases c5 : 0 ≤ x6_1
    ·rw [if_pos c5] at H
     have c5b0 : decide (0 ≤ x6_1) = true := decide_eq_true c5
     clear c5
     replace H := Option.bind_eq_some_iff.mp H
     obtain ⟨t255, A60, H⟩ := H
     try dsimp only at H
     have A6 := Aside0.mk A60
     clear A60
     by_cases c7 : t255 = true
     ·subst c7
      rw [if_pos rfl] at H; try dsimp only at H
      have H' := Aside0.mk H
      clear H
      try go_wp2
      replace BK253 := Aside0.mk (blk_drew BK253.out)
      replace HB := Aside0.mk (below_drew1 HB.out)
      have p254 : 0 ≤ (x6_1 : Int) := of_decide_eq_true (by first | (with_reducible assumption) | assumption)
      have q254 : x6_1 < (l0.length : Int) := of_decide_eq_true (by first | (with_reducible assumption) | assumption)
      obtain ⟨ad254, e254, hx254_0, hx254_1, hx254_2, hx254_3, hx254_4, hx254_5⟩ := at_T28 HR0.out x6_1 p254 q254
      have hw254_5 := hx254_5
      have hw254_4 := hx254_4
      have hw254_3 := hx254_3
      have hw254_2 := hx254_2
      have hw254_1 := hx254_1
      have hw254_0 := hx254_0
      cases e254
      replace hx254_0 := (HB.out.cell (World.block_lt_of_cell? w _ hx254_0)).trans hx254_0
      replace hx254_1 := (HB.out.cell (World.block_lt_of_cell? w _ hx254_1)).trans hx254_1
      replace hx254_2 := (HB.out.cell (World.block_lt_of_cell? w _ hx254_2)).trans hx254_2
      replace hx254_3 := (HB.out.cell (World.block_lt_of_cell? w _ hx254_3)).trans hx254_3
      replace hx254_4 := (HB.out.cell (World.block_lt_of_cell? w _ hx254_4)).trans hx254_4
      replace hx254_5 := (HB.out.cell (World.block_lt_of_cell? w _ hx254_5)).trans hx254_5
      replace p254 := eq_true p254
      replace q254 := eq_true q254
      refine start_ (n := 13) (S := fun w' => w'.cell? ⟨gb253, 0, none⟩ = some (.int .i64 a1_0) ∧ w'.cell? ⟨gb253, 1, none⟩ = some (.int .i64 a1_1) ∧ w'.cell? (ad254.add ((x6_1).toNat * 6)) = some (.int .i64 ((rd_T28 l0 x6_1).f0.f0)) ∧ w'.cell? ⟨(ad254.add ((x6_1).toNat * 6)).block, (ad254.add ((x6_1).toNat * 6)).off + 1, none⟩ = some (.int .i64 ((rd_T28 l0 x6_1).f0.f1)) ∧ w'.cell? ⟨(ad254.add ((x6_1).toNat * 6)).block, (ad254.add ((x6_1).toNat * 6)).off + 2, none⟩ = some (.int .i64 ((rd_T28 l0 x6_1).f1)) ∧ w'.cell? ⟨(ad254.add ((x6_1).toNat * 6)).block, (ad254.add ((x6_1).toNat * 6)).off + 3, none⟩ = some (.int .i64 ((rd_T28 l0 x6_1).f2)) ∧ w'.cell? ⟨(ad254.add ((x6_1).toNat * 6)).block, (ad254.add ((x6_1).toNat * 6)).off + 4, none⟩ = some (.int .i64 ((rd_T28 l0 x6_1).f3)) ∧ w'.cell? ⟨(ad254.add ((x6_1).toNat * 6)).block, (ad254.add ((x6_1).toNat * 6)).off + 5, none⟩ = some (.int .i64 ((rd_T28 l0 x6_1).f4))) (ds := []) #[false, false, false, false, false, false, false, false, false, false, false, false, false] (by kernel_rfl) rfl rfl ⟨(blk_cell BK253.out 0).trans rfl, (blk_cell BK253.out 1).trans rfl, ((HB.out.cell (World.block_lt_of_cell? w _ hw254_0)).trans hw254_0), ((HB.out.cell (World.block_lt_of_cell? w _ hw254_1)).trans hw254_1), ((HB.out.cell (World.block_lt_of_cell? w _ hw254_2)).trans hw254_2), ((HB.out.cell (World.block_lt_of_cell? w _ hw254_3)).trans hw254_3), ((HB.out.cell (World.block_lt_of_cell? w _ hw254_4)).trans hw254_4), ((HB.out.cell (World.block_lt_of_cell? w _ hw254_5)).trans hw254_5)⟩ (fun hHeld => ?_); refine with_tabW board_alarms_find.tab2 board_alarms_find.bits2 (fun HT_ HW_ => ?_)
      generalize wr.drew = w8 at BK253 HB hx254_0 hx254_1 hx254_2 hx254_3 hx254_4 hx254_5 hHeld ⊢
      have Q_ := Qs.mk (n := 13) [(0, 0, 7, 1), (0, 1, 8, 3), (0, 2, 9, 7), (0, 3, 10, 15), (0, 4, 11, 31), (0, 5, 12, 63), (0, 6, 13, 127), (0, 7, 14, 255), (0, 8, 15, 511), (2, 9, 16, 1023), (2, 10, 17, 2047)]
      iterate 11 (first | (obtain ⟨q_, Q_⟩ := Qs.p Q_; refine pureQ_ q_ (v := ?_) (a' := ?_) rfl rfl (any_of HT_.out (by kernel_rfl)) (fun _ _ _ h => h) (Or.inl ⟨by rfl, ?_⟩) ?_ ?_; rotate_left; (intro w'; go_simp; with_reducible rfl); rotate_left; (simp only [Act.put, List.setIfInBounds_toArray, List.set_cons_zero, List.set_cons_succ, i64_w, i32_w]; rfl)) | (obtain ⟨q_, Q_⟩ := Qs.t Q_; refine takeQ_ q_ (v := ?_) (a' := ?_) rfl rfl (take_ofW HT_.out HW_.out (by kernel_rfl)) (fun _ _ _ h => h) (Or.inl ⟨by rfl, ?_⟩) hHeld ?_ ?_; rotate_left; (rintro w' ⟨s0, s1, s2, s3, s4, s5, s6, s7⟩; go_simp; with_reducible rfl); rotate_left; (simp only [Act.put, List.setIfInBounds_toArray, List.set_cons_zero, List.set_cons_succ, i64_w, i32_w]; rfl)))
      clear Q_
      refine one_ (i := 11) (N := some 18) (dn_ 12 13) rfl rfl (one_of HT_.out (by kernel_rfl)) (by decide) (fun K hK => ?_)
      refine goes_ Try.func84 (by kernel_rfl) rfl #[.agg #[.int .i64 ((rd_T28 l0 x6_1).f0.f0), .int .i64 ((rd_T28 l0 x6_1).f0.f1)], .agg #[.int .i64 a1_0, .int .i64 a1_1]] (by rfl) rfl rfl (by (try simp only [List.map_toArray, List.map_cons, List.map_nil]); first | done | rfl | (simp only [List.length_drop, List.length_take]; rfl)) ?_
      with_reducible refine (spot_Less.calls ((rd_T28 l0 x6_1).f0.f0) ((rd_T28 l0 x6_1).f0.f1) a1_0 a1_1 true _ A6.out).mono ?_
      rintro e w9 ⟨rfl, hb⟩
      refine ⟨_, rfl, ?_⟩
      replace BK253 := bl_ BK253 hb
      replace HB := Aside0.mk (below_step (by repeat (with_reducible first | exact HB.out | apply pw_below_drewN | apply below_drew1 | refine below_set ?_ GE253.out)) hb)
      (try clear hb)
      (try clear hb2)
      (try clear hk)
      (try clear hi)
      refine hK.out _ _ ⟨(blk_cell BK253.out 0).trans rfl, (blk_cell BK253.out 1).trans rfl, ((HB.out.cell (World.block_lt_of_cell? w _ hw254_0)).trans hw254_0), ((HB.out.cell (World.block_lt_of_cell? w _ hw254_1)).trans hw254_1), ((HB.out.cell (World.block_lt_of_cell? w _ hw254_2)).trans hw254_2), ((HB.out.cell (World.block_lt_of_cell? w _ hw254_3)).trans hw254_3), ((HB.out.cell (World.block_lt_of_cell? w _ hw254_4)).trans hw254_4), ((HB.out.cell (World.block_lt_of_cell? w _ hw254_5)).trans hw254_5)⟩ (fun hHeld => ?_)
      clear hK K
      refine norm_ (a' := ?_) ?_ ?_
      rotate_left
      ·show Act.put _ (some 18) _ = _
       simp only [Act.put, List.setIfInBounds_toArray, List.set_cons_zero, List.set_cons_succ, i64_w, i32_w]
       rfl
      refine pure_ (i := 12) (N := some 19) (v := ?_) (a' := ?_) #[true, true, true, true, true, true, true, true, true, true, true, true, true] rfl rfl (any_of HT_.out (by kernel_rfl)) (fun _ _ _ h => h) (Or.inl ⟨by rfl, ?_⟩) ?_ ?_
      rotate_left
      ·intro w'
       go_simp
       with_reducible rfl
      rotate_left; (simp only [Act.put, List.setIfInBounds_toArray, List.set_cons_zero, List.set_cons_succ, i64_w, i32_w]; rfl)
      refine done_ (done_of HT_.out (by kernel_rfl)) ?_
      try go_wp2
      go_roundg k1
      case measure => have := HK1.out; omega
      case rel => exact ⟨(wrap64 (x6_1 + 1)), (by first | rfl | (simp; done) | (simp [*]; done)), H', ⟨by have := HK1.out; omega⟩, ⟨by (with_reducible repeat (first | refine blk_drewN ?_ _ | refine blk_drew ?_ | refine blk_alloc ?_ _)); exact BK253.out⟩, ⟨by repeat (with_reducible first | exact HB.out | apply pw_below_drewN | apply below_drew1 | refine below_set ?_ GE253.out)⟩⟩
     ·replace c7 := Bool.eq_false_iff.mpr c7
      subst c7
      rw [if_neg (show ¬ (false = true) by decide)] at H; try dsimp only at H
      exact absurd H (by simp)
    ·rw [if_neg c5] at H
     exact absurd H (by simp)
   ·rw [if_neg c4] at H
    have c4b0 : decide (x6_1 < (l0.length : Int)) = false := decide_eq_false c4
    clear c4
    simp only [Option.some.injEq, Prod.mk.injEq] at H
    obtain ⟨rfl, rfl⟩ := H
    try go_wp2
    replace BK253 := Aside0.mk (blk_drew BK253.out)
    replace HB := Aside0.mk (below_drew1 HB.out)
    refine start_ (n := 13) (S := fun w' => True) (ds := []) #[false, false, false, false, false, false, false, false, false, false, false, false, false] (by kernel_rfl) rfl rfl trivial (fun hHeld => ?_); refine with_tabW board_alarms_find.tab2 board_alarms_find.bits2 (fun HT_ HW_ => ?_)
    generalize wr.drew = w10 at BK253 HB hHeld ⊢
    have Q_ := Qs.mk (n := 13) [(0, 0, 7, 1), (0, 1, 8, 3), (0, 2, 9, 7), (0, 3, 10, 15), (0, 4, 11, 31), (1, 5, 12, 63), (1, 6, 13, 127), (1, 7, 14, 255), (1, 8, 15, 511), (1, 9, 16, 1023), (1, 10, 17, 2047), (1, 11, 18, 4095), (0, 12, 19, 8191)]
    iterate 13 (first | (obtain ⟨q_, Q_⟩ := Qs.p Q_; refine pureQ_ q_ (v := ?_) (a' := ?_) rfl rfl (any_of HT_.out (by kernel_rfl)) (fun _ _ _ h => h) (Or.inl ⟨by rfl, ?_⟩) ?_ ?_; rotate_left; (intro w'; go_simp; with_reducible rfl); rotate_left; (simp only [Act.put, List.setIfInBounds_toArray, List.set_cons_zero, List.set_cons_succ, i64_w, i32_w]; rfl)) | (obtain ⟨q_, Q_⟩ := Qs.u Q_; refine pureQ_ q_ (v := undef) (a' := ?_) rfl rfl (any_of HT_.out (by kernel_rfl)) (fun _ _ _ h => h) (Or.inr ⟨by rfl, rfl⟩) ?_ ?_; rotate_left; (simp only [Act.put, List.setIfInBounds_toArray, List.set_cons_zero, List.set_cons_succ, i64_w, i32_w]; rfl)))
    clear Q_
    refine done_ (done_of HT_.out (by kernel_rfl)) ?_
    try go_wp2
    replace BK253 := Aside0.mk (blk_drew BK253.out)
    replace HB := Aside0.mk (below_drew1 HB.out)
    refine start_ (n := 16) (S := fun w' => True) (ds := []) #[false, false, false, false, false, false, false, false, false, false, false, false, false, false, false, false] (by kernel_rfl) rfl rfl trivial (fun hHeld => ?_); refine with_tabW board_alarms_find.tab4 board_alarms_find.bits4 (fun HT_ HW_ => ?_)
    generalize w10.drew = w11 at BK253 HB hHeld ⊢
    have Q_ := Qs.mk (n := 16) [(0, 0, 22, 1), (0, 1, 23, 3), (0, 2, 24, 7), (0, 3, 25, 15), (0, 4, 26, 31), (0, 5, 27, 63), (1, 6, 28, 127), (1, 7, 29, 255), (1, 8, 30, 511), (1, 9, 31, 1023), (1, 10, 32, 2047), (1, 11, 33, 4095), (1, 12, 34, 8191), (0, 13, 35, 16383), (0, 14, 4, 32767), (0, 15, 5, 65535)]
    iterate 16 (first | (obtain ⟨q_, Q_⟩ := Qs.p Q_; refine pureQ_ q_ (v := ?_) (a' := ?_) rfl rfl (any_of HT_.out (by kernel_rfl)) (fun _ _ _ h => h) (Or.inl ⟨by rfl, ?_⟩) ?_ ?_; rotate_left; (intro w'; go_simp; with_reducible rfl); rotate_left; (simp only [Act.put, List.setIfInBounds_toArray, List.set_cons_zero, List.set_cons_succ, i64_w, i32_w]; rfl)) | (obtain ⟨q_, Q_⟩ := Qs.u Q_; refine pureQ_ q_ (v := undef) (a' := ?_) rfl rfl (any_of HT_.out (by kernel_rfl)) (fun _ _ _ h => h) (Or.inr ⟨by rfl, rfl⟩) ?_ ?_; rotate_left; (simp only [Act.put, List.setIfInBounds_toArray, List.set_cons_zero, List.set_cons_succ, i64_w, i32_w]; rfl)))
    clear Q_
    refine done_ (done_of HT_.out (by kernel_rfl)) ?_
    try go_wp2
    go_ret2
    exact ⟨by first | rfl | (simp [errW_none, errW_some] <;> rfl) | (simp [*, errW_none, errW_some] <;> rfl), by repeat (with_reducible first | exact HB.out | apply pw_below_drewN | apply below_drew1 | refine below_set ?_ GE253.out)⟩

/-! ### board_sheet_now: function 53 -/
def board_sheet_now.f (l0_0 : List (S28)) (a0_1 : Int) (a0_2 : Int) (l0_3 : List (S28)) (l1 : List (S28)) : Option (Int × Int × (List (S28))) := some (a0_1, a0_2, l1)
set_option maxHeartbeats 8000000 in
set_option maxRecDepth 100000 in
theorem board_sheet_now.calls (A0_0 : Option Addr) (c0_0 : Nat) (l0_0 : List (S28)) (a0_1 : Int) (a0_2 : Int) (A0_3 : Option Addr) (c0_3 : Nat) (l0_3 : List (S28)) (P1_ : Nat → Prop) (u9000_ : Value) (l1 : List (S28)) (r1 : Int) (r2 : Int) (r3 : List (S28)) (w0 w : World) (hB : Below w0.heap.size w0 w) (hr0_0 : ∀ W_, Kept w W_ (fun k_ => P1_ k_) → Kd.C k28 W_ A0_0 l0_0.length l0_0) (hc0_0 : l0_0.length ≤ c0_0) (hr0_3 : ∀ W_, Kept w W_ (fun k_ => P1_ k_) → Kd.C k28 W_ A0_3 l0_3.length l0_3) (hc0_3 : l0_3.length ≤ c0_3) (ho1 : Kd.R k28 28 w w0.heap.size P1_ u9000_ l1) (h : board_sheet_now.f l0_0 a0_1 a0_2 l0_3 l1 = some (r1, r2, r3)) :
 Calls Try.prog 53 #[.agg #[.slice A0_0 l0_0.length c0_0, .int .i64 a0_1, .int .i64 a0_2, .slice A0_3 l0_3.length c0_3], u9000_] w fun e w' => ∃ v2_ : Value, e = .returned (.agg #[.int .i64 r1, .int .i64 r2, v2_]) ∧ Kd.R k28 28 w' w0.heap.size (fun k_ => (P1_ k_ ∨ w.heap.size ≤ k_)) v2_ r3 ∧ Below w0.heap.size w0 w' ∧ Kept w w' (fun k_ => P1_ k_) := by
 have hu72 := Try.underlying72
 have hu24 := Try.underlying24
 have HR0_0 := Aside0.mk hr0_0
 have HC0_0 := Aside0.mk hc0_0
 clear hr0_0 hc0_0
 have HR0_3 := Aside0.mk hr0_3
 have HC0_3 := Aside0.mk hc0_3
 clear hr0_3 hc0_3
 have HO1 := Aside0.mk (show Kd.R k28 28 w w0.heap.size (fun k_ => (P1_ k_ ∨ w.heap.size ≤ k_)) u9000_ l1 from Kd.R_mono ho1 (fun k_ hk => (.inl hk)))
 have HK := Aside0.mk (Kept.refl w (fun k_ => P1_ k_))
 have HW0 := Aside0.mk hB.size
 have HB := Aside0.mk hB
 clear hB
 have H : (some (a0_1, a0_2, l1)) = some (r1, r2, r3) := h
 clear h
 simp only [Option.some.injEq, Prod.mk.injEq] at H
 obtain ⟨rfl, rfl, rfl⟩ := H
 go_enter Try.func53, Try.ntmps53
 go_wp2_with (first | ((with_reducible refine gate_dst (N := 2) rfl ?_); refine box_event ?hg (N := 2) ?hd (cs := #[.slice A0_0 l0_0.length c0_0, .int .i64 a0_1, .int .i64 a0_2, .slice A0_3 l0_3.length c0_3]) (t := 72) ?hr ?_; (case hd => rfl); (case hg => rfl); (case hr => first | (go_simp; done) | (go_simp; rfl)); intro gb256 hg w3 hbox hb; replace HO1 := rb_ HO1 hb; have BK256 := Aside0.mk (hbox); have GW256 := Aside0.mk ((by rw [hg]; exact (by first | exact HK.out.1 | exact (show Kept w _ (fun k_ => P1_ k_) from by repeat (first | (with_reducible first | exact HK.out | apply Kept.alloc | apply Kept.drewN | apply Kept.drew) | exact HK.out)).1) : w.heap.size ≤ gb256)); replace HK := Aside0.mk (Kept.below (S := (fun k_ => P1_ k_)) (by repeat (first | (with_reducible first | exact HK.out | apply Kept.alloc | apply Kept.drewN | apply Kept.drew) | exact HK.out)) hb); have GE256 := Aside0.mk ((by rw [hg]; exact (below_size HB.out) : w0.heap.size ≤ gb256)); replace HB := Aside0.mk (below_step HB.out hb); clear hb hbox hg) | ((with_reducible refine gate_dst (N := 4) rfl ?_); refine box_event ?hg (N := 4) ?hd (cs := #[.int .i64 0, .int .i64 0, .slice none 0 0]) (t := 24) ?hr ?_; (case hd => rfl); (case hg => rfl); (case hr => first | (go_simp; done) | (go_simp; rfl)); intro gb257 hg w4 hbox hb; replace HO1 := rb_ HO1 hb; have BK257 := Aside0.mk (hbox); have GW257 := Aside0.mk ((by rw [hg]; exact (by first | exact HK.out.1 | exact (show Kept w _ (fun k_ => P1_ k_) from by repeat (first | (with_reducible first | exact HK.out | apply Kept.alloc | apply Kept.drewN | apply Kept.drew | refine Kept.setCell ?_ (.inr GW256.out) _) | exact HK.out)).1) : w.heap.size ≤ gb257)); replace HK := Aside0.mk (Kept.below (S := (fun k_ => P1_ k_)) (by repeat (first | (with_reducible first | exact HK.out | apply Kept.alloc | apply Kept.drewN | apply Kept.drew | refine Kept.setCell ?_ (.inr GW256.out) _) | exact HK.out)) hb); have GE257 := Aside0.mk ((by rw [hg]; exact (below_size (by repeat (with_reducible first | exact HB.out | apply pw_below_drewN | apply below_drew1 | refine below_set ?_ GE256.out))) : w0.heap.size ≤ gb257)); replace HB := Aside0.mk (below_step (by repeat (with_reducible first | exact HB.out | apply pw_below_drewN | apply below_drew1 | refine below_set ?_ GE256.out)) hb); have NB256_257 := Aside0.mk ((by rw [hg]; exact Nat.ne_of_lt (blk_lt BK256.out) : gb256 ≠ gb257)); have NB257_256 := Aside0.mk ((by rw [hg]; exact Nat.ne_of_gt (blk_lt BK256.out) : gb257 ≠ gb256)); replace BK256 := bl_ BK256 hb; clear hb hbox hg; have hnb5 := NB256_257.out; have hnc5 := NB257_256.out; have hcz6_0 : w4.cell? ⟨gb256, 0, none⟩ = some (.slice A0_0 l0_0.length c0_0) := (blk_cell BK256.out 0).trans rfl; have hcz6_1 : w4.cell? ⟨gb256, 1, none⟩ = some (.int .i64 a0_1) := (blk_cell BK256.out 1).trans rfl; have hcz6_2 : w4.cell? ⟨gb256, 2, none⟩ = some (.int .i64 a0_2) := (blk_cell BK256.out 2).trans rfl; have hcz6_3 : w4.cell? ⟨gb256, 3, none⟩ = some (.slice A0_3 l0_3.length c0_3) := (blk_cell BK256.out 3).trans rfl; have hfz6_0 := blk_frozen BK256.out 0; have hfz6_1 := blk_frozen BK256.out 1; have hfz6_2 := blk_frozen BK256.out 2; have hfz6_3 := blk_frozen BK256.out 3; obtain ⟨Ao7, co7, eo7⟩ := Kd.R_slice HO1.out; subst eo7; have hcz8_0 : w4.cell? ⟨gb257, 0, none⟩ = some (.int .i64 0) := (blk_cell BK257.out 0).trans rfl; have hcz8_1 : w4.cell? ⟨gb257, 1, none⟩ = some (.int .i64 0) := (blk_cell BK257.out 1).trans rfl; have hcz8_2 : w4.cell? ⟨gb257, 2, none⟩ = some (.slice none 0 0) := (blk_cell BK257.out 2).trans rfl; have hfz8_0 := blk_frozen BK257.out 0; have hfz8_1 := blk_frozen BK257.out 1; have hfz8_2 := blk_frozen BK257.out 2))
 refine bodyPost_ret (results_cell_row rfl _ _ gb257 24 #[.int .i64 a0_1, .int .i64 a0_2, .slice Ao7 l1.length co7] (0, 0) _ rfl (by refine blk_put (cs := #[.int .i64 a0_1, .int .i64 a0_2, .slice none 0 0]) ?_ 2 _ rfl; refine blk_put (cs := #[.int .i64 a0_1, .int .i64 0, .slice none 0 0]) ?_ 1 _ rfl; refine blk_put (cs := #[.int .i64 0, .int .i64 0, .slice none 0 0]) ?_ 0 _ rfl; exact BK257.out) Try.underlying24 rfl (by kernel_rfl)) rfl ?_
 exact ⟨_, by first | rfl | (simp [errW_none, errW_some] <;> rfl) | (simp [*, errW_none, errW_some] <;> rfl), by (with_reducible repeat (first | apply Kd.R_alloc | apply Kd.R_drewN | apply Kd.R_drew)); exact Kd.R_mono (rf3 (Kd.R_types HO1.out BK257.out (by decide)) (fun _ hk => hk.2) (.int .i64 a0_1) (.int .i64 a0_2) (.slice Ao7 l1.length co7)) (fun _ hk => hk.1), by repeat (with_reducible first | exact HB.out | apply pw_below_drewN | apply below_drew1 | refine below_set ?_ (Aside0.out (by assumption))), by repeat (first | (with_reducible first | exact HK.out | apply Kept.alloc | apply Kept.drewN | apply Kept.drew | refine Kept.setCell ?_ (.inr GW256.out) _ | refine Kept.setCell ?_ (.inr GW257.out) _) | exact HK.out)⟩

/-! ### api_Alarm_100: function 100 -/
def api_Alarm_100.f (l0 : List S28) (a1 : Int) : Option (List S28) := if 0 ≤ a1 then if a1 < 2199023255552 then some [] else none else none
set_option maxHeartbeats 8000000 in
set_option maxRecDepth 100000 in
theorem api_Alarm_100.calls (a1 : Int) (r : List S28) (w : World) (h : api_Alarm_100.f [] a1 = some r) :
 Calls Try.prog 100 #[.slice none 0 0, .int .i64 a1] w fun e w' => ∃ v0_ : Value, e = .returned (v0_) ∧ Kd.R k28 28 w' w.heap.size (fun _ => True) v0_ r ∧ Below w.heap.size w w' := by
 unfold api_Alarm_100.f at h
 by_cases c1 : 0 ≤ a1
 ·rw [if_pos c1] at h
  by_cases c2 : a1 < 2199023255552
  ·rw [if_pos c2] at h
   obtain rfl := Option.some.inj h
   have b1 : decide (a1 < 0) = false := decide_eq_false (by omega)
   by_cases c3 : 0 < a1
   ·have b3 : decide (0 < a1) = true := decide_eq_true c3
    go_enter Try.func100, Try.ntmps100
    go_wp2_with ((with_reducible refine gate_builtin (b := .append) (xs := #[.tmp 20, .tmp 21]) rfl ?_); at_builtin; refine Kd.R_append_zeros k28 (w0 := w) w.heap.size rfl (.tmp 20) (.tmp 21) 70 3 28 (.agg #[.int .i64 0, .int .i64 0, .int .i64 0, .int .i64 0, .int .i64 0, .int .i64 0]) 48 rfl Try.underlying70 Try.underlying3 info28 rfl (by decide) (by omega) (.slice none 0 0) ([] : List S28) z28 a1 (fun _ => True) rfl rfl (k28_mkM _ _ _ z28) (fun _ _ => trivial) ?aO c1 ?aB ?aS ?aL ?_; (case aB => exact (by repeat (first | exact Below.refl _ _ | apply pw_below_drewN | apply below_drew1))); (case aO => exact Kd.R_nil _ _ _ _ _); (case aS => exact Nat.le_refl _); (case aL => simp; omega); intro v157 w3 ho hb hg hat; obtain ⟨A, c, rfl⟩ := Kd.R_slice ho; have HB := Aside0.mk (hb); have HO := Aside0.mk (Kd.R_take (m := 0) ho (Nat.zero_le _)); clear ho hb hg hat)
    go_ret
    exact ⟨_, rfl, HO.out, HB.out⟩
   ·obtain rfl : a1 = 0 := by omega
    clear h c1 c2 c3 b1
    go_enter Try.func100, Try.ntmps100
    go_wp2
    go_ret
    exact ⟨_, rfl, Kd.R_nil _ _ _ _ _, Below.refl _ _⟩
  ·rw [if_neg c2] at h
   exact absurd h (by simp)
 ·rw [if_neg c1] at h
  exact absurd h (by simp)

end Go.Proofs.Ytcfpbmdndapeaaa.F
