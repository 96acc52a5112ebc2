-- Written by a program of this session (xprint.py), out of the translation and of contracts proved by hand.
import Derived.Test.YtcfpbmdndapeaaaF0
import Derived.Test.YtcfpbmdndapeaaaF1
import Derived.Test.YtcfpbmdndapeaaaF3
namespace Go.Proofs.Ytcfpbmdndapeaaa.F
open Go.RowKit Go.Proofs.YtcfpbmdndapeaaaV.PrintWords Go.Proofs.YtcfpbmdndapeaaaV.PrintLast Go.Proofs.YtcfpbmdndapeaaaV.PrintMore
attribute [local go_sem] max2_int min2_int max_two min_two max_three min_three max_four min_four   -- for this text's walks alone
set_option linter.unusedVariables false
set_option linter.unusedSimpArgs false

attribute [local go_sem high] eqA26
/-! ### board_alarms_find: function 52 -/
def board_alarms_find.l0 : Nat → List (S28) → Int → Int → Int → Option (Int × Bool)
 | 0, _, _, _, _ => none
 | k + 1, x0, x6, x238000, x238001 => if x6 < (x0.length : Int) then (if 0 ≤ x6 then ((spot_Less.f ((rd_T28 x0 x6).f0.f0) ((rd_T28 x0 x6).f0.f1) x238000 x238001).bind fun t239 => (if t239 = true then (board_alarms_find.l0 k x0 (wrap64 (x6 + 1)) x238000 x238001) else (some (x6, (((rd_T28 x0 x6).f0.f0) == x238000 && (((rd_T28 x0 x6).f0.f1) == x238001)))))) else (none)) else (some (x6, false))
def board_alarms_find.f (k : Nat) (l0 : List (S28)) (a1_0 : Int) (a1_1 : Int) : Option (Int × Bool) := board_alarms_find.l0 k l0 0 a1_0 a1_1
theorem board_alarms_find.mono_l : ∀ k, (∀ y0 y1 y2 y3, LeO (board_alarms_find.l0 k y0 y1 y2 y3) (board_alarms_find.l0 (k + 1) y0 y1 y2 y3))
 | 0 => fun _ _ _ _ r h => by simp [board_alarms_find.l0] at h
 | k + 1 => by
  have ih0 := board_alarms_find.mono_l k
  ·intro y0 y1 y2 y3
   unfold board_alarms_find.l0
   repeat' first
   | (with_reducible exact ih0 _ _ _ _)
   | (with_reducible exact LeO.refl _)
   | (with_reducible exact LeO.none _)
   | (with_reducible refine LeO.ite ?_ ?_)
   | (with_reducible refine LeO.bind ?_ (fun _ => ?_))
   | exact ih0 _ _ _ _
   | exact LeO.none _
   | refine LeO.ite ?_ ?_
   | refine LeO.bind ?_ (fun _ => ?_)
theorem board_alarms_find.mono : ∀ a0 a1 a2 k, LeO (board_alarms_find.f k a0 a1 a2) (board_alarms_find.f (k + 1) a0 a1 a2) := by
 intro a0 a1 a2 k
 have ih0 := board_alarms_find.mono_l k
 unfold board_alarms_find.f
 repeat' first
   | (with_reducible exact ih0 _ _ _ _)
   | (with_reducible exact LeO.refl _)
   | (with_reducible exact LeO.none _)
   | (with_reducible refine LeO.ite ?_ ?_)
   | (with_reducible refine LeO.bind ?_ (fun _ => ?_))
   | exact ih0 _ _ _ _
   | exact LeO.none _
   | refine LeO.ite ?_ ?_
   | refine LeO.bind ?_ (fun _ => ?_)
def board_alarms_find.T2 : Bool × List (List Nat × List Nat) := (true, [([], []), ([], []), ([1], [1]), ([0, 2], [0, 2]), ([3], [3]), ([4], [4]), ([4], [4]), ([5, 6, 4], [4, 5, 6]), ([7, 4], [4, 7]), ([8, 4], [4, 8]), ([4], [4]), ([9, 10, 4, 4], [4, 9, 10]), ([4, 11], [4, 11])])
def board_alarms_find.B2 : List Nat := [0, 0, 2, 7, 15, 31, 31, 127, 255, 511, 31, 2047, 4095]
theorem board_alarms_find.tab2 : rtab .any (opsOf Try.f52 2) = board_alarms_find.T2 := by kernel_rfl
theorem board_alarms_find.bits2 : waitsOk board_alarms_find.T2.2 board_alarms_find.B2 = true := by kernel_rfl
def board_alarms_find.T4 : Bool × List (List Nat × List Nat) := (true, [([], []), ([], []), ([], []), ([2], [2]), ([1, 3], [1, 3]), ([4], [4]), ([5], [5]), ([5], [5]), ([6, 7, 5], [5, 6, 7]), ([8, 5], [5, 8]), ([9, 5], [5, 9]), ([5], [5]), ([10, 11, 5], [5, 10, 11]), ([5, 12], [5, 12]), ([0, 5, 0], [0]), ([13, 14, 0, 1, 2, 3, 4, 5, 6, 7, 8, 9, 10, 11, 12, 13, 14], [13])])
def board_alarms_find.B4 : List Nat := [0, 0, 0, 4, 14, 30, 62, 62, 254, 510, 1022, 62, 4094, 8190, 63, 32767]
theorem board_alarms_find.tab4 : rtab .any (opsOf Try.f52 4) = board_alarms_find.T4 := by kernel_rfl
theorem board_alarms_find.bits4 : waitsOk board_alarms_find.T4.2 board_alarms_find.B4 = true := by kernel_rfl
set_option maxHeartbeats 8000000 in
set_option maxRecDepth 100000 in
theorem board_alarms_find.calls (k : Nat) (A0 : Option Addr) (c0 : Nat) (l0 : List (S28)) (a1_0 : Int) (a1_1 : Int) (r1 : Int) (r2 : Bool) (w : World) (hr0 : Kd.C k28 w A0 l0.length l0) (hc0 : l0.length ≤ c0) (h : board_alarms_find.f k l0 a1_0 a1_1 = some (r1, r2)) :
  Calls Try.prog 52 #[.slice A0 l0.length c0, .agg #[.int .i64 a1_0, .int .i64 a1_1]] w fun e w' => e = .returned (.tuple #[.int .i64 r1, .bool r2]) ∧ Below w.heap.size w w' := by
 have hu26 := Try.underlying26
 have HR0 := Aside0.mk hr0
 have HC0 := Aside0.mk hc0
 clear hr0 hc0
 have HB := Aside0.mk (Below.refl w.heap.size w)
 have H : (board_alarms_find.l0 k l0 0 a1_0 a1_1) = some (r1, r2) := h
 clear h
 have H' := Aside0.mk H
 clear H
 go_enter Try.func52, Try.ntmps52
 go_wp2_with (first | ((with_reducible refine gate_dst (N := 3) rfl ?_); refine box_event ?hg (N := 3) ?hd (cs := #[.int .i64 a1_0, .int .i64 a1_1]) (t := 26) ?hr ?_; (case hd => rfl); (case hg => rfl); (case hr => first | (go_simp; done) | (go_simp; rfl)); intro gb237 hg w3 hbox hb; have BK237 := Aside0.mk (hbox); have GW237 := Aside0.mk ((by rw [hg]; exact (below_size HB.out) : w.heap.size ≤ gb237)); have GE237 := Aside0.mk ((by rw [hg]; exact (below_size HB.out) : w.heap.size ≤ gb237)); replace HB := Aside0.mk (below_step HB.out hb); clear hb hbox hg))
 (try simp only [Act.put, List.setIfInBounds_toArray, List.set_cons_zero, List.set_cons_succ])
 go_loopg [6] k (fun kq v6 w' => ∃ (x6_1 : Int), v6 = .int .i64 x6_1 ∧ Aside0 (board_alarms_find.l0 kq l0 x6_1 a1_0 a1_1 = some (r1, r2)) ∧ Aside0 (kq ≤ k) ∧ Aside0 (w'.heap[gb237]? = some (.cells #[.int .i64 a1_0, .int .i64 a1_1] 26 (0, 0))) ∧ Aside0 (Below w.heap.size w w'))
 case atStart => exact ⟨(0), (by first | rfl | (simp; done) | (simp [*]; done)), H', ⟨Nat.le_refl _⟩, ⟨by (with_reducible repeat (first | refine blk_drewN ?_ _ | refine blk_drew ?_ | refine blk_alloc ?_ _)); exact BK237.out⟩, ⟨by repeat (with_reducible first | exact HB.out | apply pw_below_drewN | apply below_drew1 | refine below_set ?_ GE237.out)⟩⟩
 case round =>
  clear H'
  try clear p2
  obtain ⟨x6_1, rfl, HA, HK1, BK237, HB⟩ := hrel
  cases gk with
  | zero => exact absurd HA.out (by simp [board_alarms_find.l0])
  | succ k1 =>
   have H := HA.out
   clear HA
   simp only [board_alarms_find.l0] at H
   by_cases c4 : x6_1 < (l0.length : Int)
   ·rw [if_pos c4] at H
    have c4b0 : decide (x6_1 < (l0.length : Int)) = true := decide_eq_true c4
    clear c4
    by_cases c5 : 0 ≤ x6_1
    ·rw [if_pos c5] at H
     have c5b0 : decide (0 ≤ x6_1) = true := decide_eq_true c5
     clear c5
     replace H := Option.bind_eq_some_iff.mp H
     obtain ⟨t239, A60, H⟩ := H
     try dsimp only at H
     have A6 := Aside0.mk A60
     clear A60
     by_cases c7 : t239 = true
     ·subst c7
      rw [if_pos rfl] at H; try dsimp only at H
      have H' := Aside0.mk H
      clear H
      try go_wp2
      replace BK237 := Aside0.mk (blk_drew BK237.out)
      replace HB := Aside0.mk (below_drew1 HB.out)
      have p238 : 0 ≤ (x6_1 : Int) := of_decide_eq_true (by first | (with_reducible assumption) | assumption)
      have q238 : x6_1 < (l0.length : Int) := of_decide_eq_true (by first | (with_reducible assumption) | assumption)
      obtain ⟨ad238, e238, hx238_0, hx238_1, hx238_2, hx238_3, hx238_4, hx238_5⟩ := at_T28 HR0.out x6_1 p238 q238
      have hw238_5 := hx238_5
      have hw238_4 := hx238_4
      have hw238_3 := hx238_3
      have hw238_2 := hx238_2
      have hw238_1 := hx238_1
      have hw238_0 := hx238_0
      cases e238
      replace hx238_0 := (HB.out.cell (World.block_lt_of_cell? w _ hx238_0)).trans hx238_0
      replace hx238_1 := (HB.out.cell (World.block_lt_of_cell? w _ hx238_1)).trans hx238_1
      replace hx238_2 := (HB.out.cell (World.block_lt_of_cell? w _ hx238_2)).trans hx238_2
      replace hx238_3 := (HB.out.cell (World.block_lt_of_cell? w _ hx238_3)).trans hx238_3
      replace hx238_4 := (HB.out.cell (World.block_lt_of_cell? w _ hx238_4)).trans hx238_4
      replace hx238_5 := (HB.out.cell (World.block_lt_of_cell? w _ hx238_5)).trans hx238_5
      replace p238 := eq_true p238
      replace q238 := eq_true q238
      refine start_ (n := 13) (S := fun w' => w'.cell? ⟨gb237, 0, none⟩ = some (.int .i64 a1_0) ∧ w'.cell? ⟨gb237, 1, none⟩ = some (.int .i64 a1_1) ∧ w'.cell? (ad238.add ((x6_1).toNat * 6)) = some (.int .i64 ((rd_T28 l0 x6_1).f0.f0)) ∧ w'.cell? ⟨(ad238.add ((x6_1).toNat * 6)).block, (ad238.add ((x6_1).toNat * 6)).off + 1, none⟩ = some (.int .i64 ((rd_T28 l0 x6_1).f0.f1)) ∧ w'.cell? ⟨(ad238.add ((x6_1).toNat * 6)).block, (ad238.add ((x6_1).toNat * 6)).off + 2, none⟩ = some (.int .i64 ((rd_T28 l0 x6_1).f1)) ∧ w'.cell? ⟨(ad238.add ((x6_1).toNat * 6)).block, (ad238.add ((x6_1).toNat * 6)).off + 3, none⟩ = some (.int .i64 ((rd_T28 l0 x6_1).f2)) ∧ w'.cell? ⟨(ad238.add ((x6_1).toNat * 6)).block, (ad238.add ((x6_1).toNat * 6)).off + 4, none⟩ = some (.int .i64 ((rd_T28 l0 x6_1).f3)) ∧ w'.cell? ⟨(ad238.add ((x6_1).toNat * 6)).block, (ad238.add ((x6_1).toNat * 6)).off + 5, none⟩ = some (.int .i64 ((rd_T28 l0 x6_1).f4))) (ds := []) #[false, false, false, false, false, false, false, false, false, false, false, false, false] (by kernel_rfl) rfl rfl ⟨(blk_cell BK237.out 0).trans rfl, (blk_cell BK237.out 1).trans rfl, ((HB.out.cell (World.block_lt_of_cell? w _ hw238_0)).trans hw238_0), ((HB.out.cell (World.block_lt_of_cell? w _ hw238_1)).trans hw238_1), ((HB.out.cell (World.block_lt_of_cell? w _ hw238_2)).trans hw238_2), ((HB.out.cell (World.block_lt_of_cell? w _ hw238_3)).trans hw238_3), ((HB.out.cell (World.block_lt_of_cell? w _ hw238_4)).trans hw238_4), ((HB.out.cell (World.block_lt_of_cell? w _ hw238_5)).trans hw238_5)⟩ (fun hHeld => ?_); refine with_tabW board_alarms_find.tab2 board_alarms_find.bits2 (fun HT_ HW_ => ?_)
      generalize wr.drew = w8 at BK237 HB hx238_0 hx238_1 hx238_2 hx238_3 hx238_4 hx238_5 hHeld ⊢
      have Q_ := Qs.mk (n := 13) [(0, 0, 7, 1), (0, 1, 8, 3), (0, 2, 9, 7), (0, 3, 10, 15), (0, 4, 11, 31), (0, 5, 12, 63), (0, 6, 13, 127), (0, 7, 14, 255), (0, 8, 15, 511), (2, 9, 16, 1023), (2, 10, 17, 2047)]
      iterate 11 (first | (obtain ⟨q_, Q_⟩ := Qs.p Q_; refine pureQ_ q_ (v := ?_) (a' := ?_) rfl rfl (any_of HT_.out (by kernel_rfl)) (fun _ _ _ h => h) (Or.inl ⟨by rfl, ?_⟩) ?_ ?_; rotate_left; (intro w'; go_simp; with_reducible rfl); rotate_left; (simp only [Act.put, List.setIfInBounds_toArray, List.set_cons_zero, List.set_cons_succ, i64_w, i32_w]; rfl)) | (obtain ⟨q_, Q_⟩ := Qs.t Q_; refine takeQ_ q_ (v := ?_) (a' := ?_) rfl rfl (take_ofW HT_.out HW_.out (by kernel_rfl)) (fun _ _ _ h => h) (Or.inl ⟨by rfl, ?_⟩) hHeld ?_ ?_; rotate_left; (rintro w' ⟨s0, s1, s2, s3, s4, s5, s6, s7⟩; go_simp; with_reducible rfl); rotate_left; (simp only [Act.put, List.setIfInBounds_toArray, List.set_cons_zero, List.set_cons_succ, i64_w, i32_w]; rfl)))
      clear Q_
      refine one_ (i := 11) (N := some 18) (dn_ 12 13) rfl rfl (one_of HT_.out (by kernel_rfl)) (by decide) (fun K hK => ?_)
      refine goes_ Try.func84 (by kernel_rfl) rfl #[.agg #[.int .i64 ((rd_T28 l0 x6_1).f0.f0), .int .i64 ((rd_T28 l0 x6_1).f0.f1)], .agg #[.int .i64 a1_0, .int .i64 a1_1]] (by rfl) rfl rfl (by (try simp only [List.map_toArray, List.map_cons, List.map_nil]); first | done | rfl | (simp only [List.length_drop, List.length_take]; rfl)) ?_
      with_reducible refine (spot_Less.calls ((rd_T28 l0 x6_1).f0.f0) ((rd_T28 l0 x6_1).f0.f1) a1_0 a1_1 true _ A6.out).mono ?_
      rintro e w9 ⟨rfl, hb⟩
      refine ⟨_, rfl, ?_⟩
      replace BK237 := bl_ BK237 hb
      replace HB := Aside0.mk (below_step (by repeat (with_reducible first | exact HB.out | apply pw_below_drewN | apply below_drew1 | refine below_set ?_ GE237.out)) hb)
      (try clear hb)
      (try clear hb2)
      (try clear hk)
      (try clear hi)
      refine hK.out _ _ ⟨(blk_cell BK237.out 0).trans rfl, (blk_cell BK237.out 1).trans rfl, ((HB.out.cell (World.block_lt_of_cell? w _ hw238_0)).trans hw238_0), ((HB.out.cell (World.block_lt_of_cell? w _ hw238_1)).trans hw238_1), ((HB.out.cell (World.block_lt_of_cell? w _ hw238_2)).trans hw238_2), ((HB.out.cell (World.block_lt_of_cell? w _ hw238_3)).trans hw238_3), ((HB.out.cell (World.block_lt_of_cell? w _ hw238_4)).trans hw238_4), ((HB.out.cell (World.block_lt_of_cell? w _ hw238_5)).trans hw238_5)⟩ (fun hHeld => ?_)
      clear hK K
      refine norm_ (a' := ?_) ?_ ?_
      rotate_left
      ·show Act.put _ (some 18) _ = _
       simp only [Act.put, List.setIfInBounds_toArray, List.set_cons_zero, List.set_cons_succ, i64_w, i32_w]
       rfl
      refine pure_ (i := 12) (N := some 19) (v := ?_) (a' := ?_) #[true, true, true, true, true, true, true, true, true, true, true, true, true] rfl rfl (any_of HT_.out (by kernel_rfl)) (fun _ _ _ h => h) (Or.inl ⟨by rfl, ?_⟩) ?_ ?_
      rotate_left
      ·intro w'
       go_simp
       with_reducible rfl
      rotate_left; (simp only [Act.put, List.setIfInBounds_toArray, List.set_cons_zero, List.set_cons_succ, i64_w, i32_w]; rfl)
      refine done_ (done_of HT_.out (by kernel_rfl)) ?_
      try go_wp2
      go_roundg k1
      case measure => have := HK1.out; omega
      case rel => exact ⟨(wrap64 (x6_1 + 1)), (by first | rfl | (simp; done) | (simp [*]; done)), H', ⟨by have := HK1.out; omega⟩, ⟨by (with_reducible repeat (first | refine blk_drewN ?_ _ | refine blk_drew ?_ | refine blk_alloc ?_ _)); exact BK237.out⟩, ⟨by repeat (with_reducible first | exact HB.out | apply pw_below_drewN | apply below_drew1 | refine below_set ?_ GE237.out)⟩⟩
     ·replace c7 := Bool.eq_false_iff.mpr c7
      subst c7
      rw [if_neg (show ¬ (false = true) by decide)] at H; try dsimp only at H
      simp only [Option.some.injEq, Prod.mk.injEq] at H
      obtain ⟨rfl, rfl⟩ := H
      try go_wp2
      replace BK237 := Aside0.mk (blk_drew BK237.out)
      replace HB := Aside0.mk (below_drew1 HB.out)
      have p238 : 0 ≤ (x6_1 : Int) := of_decide_eq_true (by first | (with_reducible assumption) | assumption)
      have q238 : x6_1 < (l0.length : Int) := of_decide_eq_true (by first | (with_reducible assumption) | assumption)
      obtain ⟨ad238, e238, hx238_0, hx238_1, hx238_2, hx238_3, hx238_4, hx238_5⟩ := at_T28 HR0.out x6_1 p238 q238
      have hw238_5 := hx238_5
      have hw238_4 := hx238_4
      have hw238_3 := hx238_3
      have hw238_2 := hx238_2
      have hw238_1 := hx238_1
      have hw238_0 := hx238_0
      cases e238
      replace hx238_0 := (HB.out.cell (World.block_lt_of_cell? w _ hx238_0)).trans hx238_0
      replace hx238_1 := (HB.out.cell (World.block_lt_of_cell? w _ hx238_1)).trans hx238_1
      replace hx238_2 := (HB.out.cell (World.block_lt_of_cell? w _ hx238_2)).trans hx238_2
      replace hx238_3 := (HB.out.cell (World.block_lt_of_cell? w _ hx238_3)).trans hx238_3
      replace hx238_4 := (HB.out.cell (World.block_lt_of_cell? w _ hx238_4)).trans hx238_4
      replace hx238_5 := (HB.out.cell (World.block_lt_of_cell? w _ hx238_5)).trans hx238_5
      replace p238 := eq_true p238
      replace q238 := eq_true q238
      refine start_ (n := 13) (S := fun w' => w'.cell? ⟨gb237, 0, none⟩ = some (.int .i64 a1_0) ∧ w'.cell? ⟨gb237, 1, none⟩ = some (.int .i64 a1_1) ∧ w'.cell? (ad238.add ((x6_1).toNat * 6)) = some (.int .i64 ((rd_T28 l0 x6_1).f0.f0)) ∧ w'.cell? ⟨(ad238.add ((x6_1).toNat * 6)).block, (ad238.add ((x6_1).toNat * 6)).off + 1, none⟩ = some (.int .i64 ((rd_T28 l0 x6_1).f0.f1)) ∧ w'.cell? ⟨(ad238.add ((x6_1).toNat * 6)).block, (ad238.add ((x6_1).toNat * 6)).off + 2, none⟩ = some (.int .i64 ((rd_T28 l0 x6_1).f1)) ∧ w'.cell? ⟨(ad238.add ((x6_1).toNat * 6)).block, (ad238.add ((x6_1).toNat * 6)).off + 3, none⟩ = some (.int .i64 ((rd_T28 l0 x6_1).f2)) ∧ w'.cell? ⟨(ad238.add ((x6_1).toNat * 6)).block, (ad238.add ((x6_1).toNat * 6)).off + 4, none⟩ = some (.int .i64 ((rd_T28 l0 x6_1).f3)) ∧ w'.cell? ⟨(ad238.add ((x6_1).toNat * 6)).block, (ad238.add ((x6_1).toNat * 6)).off + 5, none⟩ = some (.int .i64 ((rd_T28 l0 x6_1).f4))) (ds := []) #[false, false, false, false, false, false, false, false, false, false, false, false, false] (by kernel_rfl) rfl rfl ⟨(blk_cell BK237.out 0).trans rfl, (blk_cell BK237.out 1).trans rfl, ((HB.out.cell (World.block_lt_of_cell? w _ hw238_0)).trans hw238_0), ((HB.out.cell (World.block_lt_of_cell? w _ hw238_1)).trans hw238_1), ((HB.out.cell (World.block_lt_of_cell? w _ hw238_2)).trans hw238_2), ((HB.out.cell (World.block_lt_of_cell? w _ hw238_3)).trans hw238_3), ((HB.out.cell (World.block_lt_of_cell? w _ hw238_4)).trans hw238_4), ((HB.out.cell (World.block_lt_of_cell? w _ hw238_5)).trans hw238_5)⟩ (fun hHeld => ?_); refine with_tabW board_alarms_find.tab2 board_alarms_find.bits2 (fun HT_ HW_ => ?_)
      generalize wr.drew = w10 at BK237 HB hx238_0 hx238_1 hx238_2 hx238_3 hx238_4 hx238_5 hHeld ⊢
      have Q_ := Qs.mk (n := 13) [(0, 0, 7, 1), (0, 1, 8, 3), (0, 2, 9, 7), (0, 3, 10, 15), (0, 4, 11, 31), (0, 5, 12, 63), (0, 6, 13, 127), (0, 7, 14, 255), (0, 8, 15, 511), (2, 9, 16, 1023), (2, 10, 17, 2047)]
      iterate 11 (first | (obtain ⟨q_, Q_⟩ := Qs.p Q_; refine pureQ_ q_ (v := ?_) (a' := ?_) rfl rfl (any_of HT_.out (by kernel_rfl)) (fun _ _ _ h => h) (Or.inl ⟨by rfl, ?_⟩) ?_ ?_; rotate_left; (intro w'; go_simp; with_reducible rfl); rotate_left; (simp only [Act.put, List.setIfInBounds_toArray, List.set_cons_zero, List.set_cons_succ, i64_w, i32_w]; rfl)) | (obtain ⟨q_, Q_⟩ := Qs.t Q_; refine takeQ_ q_ (v := ?_) (a' := ?_) rfl rfl (take_ofW HT_.out HW_.out (by kernel_rfl)) (fun _ _ _ h => h) (Or.inl ⟨by rfl, ?_⟩) hHeld ?_ ?_; rotate_left; (rintro w' ⟨s0, s1, s2, s3, s4, s5, s6, s7⟩; go_simp; with_reducible rfl); rotate_left; (simp only [Act.put, List.setIfInBounds_toArray, List.set_cons_zero, List.set_cons_succ, i64_w, i32_w]; rfl)))
      clear Q_
      refine one_ (i := 11) (N := some 18) (dn_ 12 13) rfl rfl (one_of HT_.out (by kernel_rfl)) (by decide) (fun K hK => ?_)
      refine goes_ Try.func84 (by kernel_rfl) rfl #[.agg #[.int .i64 ((rd_T28 l0 x6_1).f0.f0), .int .i64 ((rd_T28 l0 x6_1).f0.f1)], .agg #[.int .i64 a1_0, .int .i64 a1_1]] (by rfl) rfl rfl (by (try simp only [List.map_toArray, List.map_cons, List.map_nil]); first | done | rfl | (simp only [List.length_drop, List.length_take]; rfl)) ?_
      with_reducible refine (spot_Less.calls ((rd_T28 l0 x6_1).f0.f0) ((rd_T28 l0 x6_1).f0.f1) a1_0 a1_1 false _ A6.out).mono ?_
      rintro e w11 ⟨rfl, hb⟩
      refine ⟨_, rfl, ?_⟩
      replace BK237 := bl_ BK237 hb
      replace HB := Aside0.mk (below_step (by repeat (with_reducible first | exact HB.out | apply pw_below_drewN | apply below_drew1 | refine below_set ?_ GE237.out)) hb)
      (try clear hb)
      (try clear hb2)
      (try clear hk)
      (try clear hi)
      refine hK.out _ _ ⟨(blk_cell BK237.out 0).trans rfl, (blk_cell BK237.out 1).trans rfl, ((HB.out.cell (World.block_lt_of_cell? w _ hw238_0)).trans hw238_0), ((HB.out.cell (World.block_lt_of_cell? w _ hw238_1)).trans hw238_1), ((HB.out.cell (World.block_lt_of_cell? w _ hw238_2)).trans hw238_2), ((HB.out.cell (World.block_lt_of_cell? w _ hw238_3)).trans hw238_3), ((HB.out.cell (World.block_lt_of_cell? w _ hw238_4)).trans hw238_4), ((HB.out.cell (World.block_lt_of_cell? w _ hw238_5)).trans hw238_5)⟩ (fun hHeld => ?_)
      clear hK K
      refine norm_ (a' := ?_) ?_ ?_
      rotate_left
      ·show Act.put _ (some 18) _ = _
       simp only [Act.put, List.setIfInBounds_toArray, List.set_cons_zero, List.set_cons_succ, i64_w, i32_w]
       rfl
      refine pure_ (i := 12) (N := some 19) (v := ?_) (a' := ?_) #[true, true, true, true, true, true, true, true, true, true, true, true, true] rfl rfl (any_of HT_.out (by kernel_rfl)) (fun _ _ _ h => h) (Or.inl ⟨by rfl, ?_⟩) ?_ ?_
      rotate_left
      ·intro w'
       go_simp
       with_reducible rfl
      rotate_left; (simp only [Act.put, List.setIfInBounds_toArray, List.set_cons_zero, List.set_cons_succ, i64_w, i32_w]; rfl)
      refine done_ (done_of HT_.out (by kernel_rfl)) ?_
      try go_wp2
      replace BK237 := Aside0.mk (blk_drew BK237.out)
      replace HB := Aside0.mk (below_drew1 HB.out)
      have p240 : 0 ≤ (x6_1 : Int) := of_decide_eq_true (by first | (with_reducible assumption) | assumption)
      have q240 : x6_1 < (l0.length : Int) := of_decide_eq_true (by first | (with_reducible assumption) | assumption)
      obtain ⟨ad240, e240, hx240_0, hx240_1, hx240_2, hx240_3, hx240_4, hx240_5⟩ := at_T28 HR0.out x6_1 p240 q240
      have hw240_5 := hx240_5
      have hw240_4 := hx240_4
      have hw240_3 := hx240_3
      have hw240_2 := hx240_2
      have hw240_1 := hx240_1
      have hw240_0 := hx240_0
      obtain rfl : ad238 = ad240 := (by injection e240)
      replace hx240_0 := (HB.out.cell (World.block_lt_of_cell? w _ hx240_0)).trans hx240_0
      replace hx240_1 := (HB.out.cell (World.block_lt_of_cell? w _ hx240_1)).trans hx240_1
      replace hx240_2 := (HB.out.cell (World.block_lt_of_cell? w _ hx240_2)).trans hx240_2
      replace hx240_3 := (HB.out.cell (World.block_lt_of_cell? w _ hx240_3)).trans hx240_3
      replace hx240_4 := (HB.out.cell (World.block_lt_of_cell? w _ hx240_4)).trans hx240_4
      replace hx240_5 := (HB.out.cell (World.block_lt_of_cell? w _ hx240_5)).trans hx240_5
      replace p240 := eq_true p240
      replace q240 := eq_true q240
      refine start_ (n := 16) (S := fun w' => w'.cell? ⟨gb237, 0, none⟩ = some (.int .i64 a1_0) ∧ w'.cell? ⟨gb237, 1, none⟩ = some (.int .i64 a1_1) ∧ w'.cell? (ad238.add ((x6_1).toNat * 6)) = some (.int .i64 ((rd_T28 l0 x6_1).f0.f0)) ∧ w'.cell? ⟨(ad238.add ((x6_1).toNat * 6)).block, (ad238.add ((x6_1).toNat * 6)).off + 1, none⟩ = some (.int .i64 ((rd_T28 l0 x6_1).f0.f1)) ∧ w'.cell? ⟨(ad238.add ((x6_1).toNat * 6)).block, (ad238.add ((x6_1).toNat * 6)).off + 2, none⟩ = some (.int .i64 ((rd_T28 l0 x6_1).f1)) ∧ w'.cell? ⟨(ad238.add ((x6_1).toNat * 6)).block, (ad238.add ((x6_1).toNat * 6)).off + 3, none⟩ = some (.int .i64 ((rd_T28 l0 x6_1).f2)) ∧ w'.cell? ⟨(ad238.add ((x6_1).toNat * 6)).block, (ad238.add ((x6_1).toNat * 6)).off + 4, none⟩ = some (.int .i64 ((rd_T28 l0 x6_1).f3)) ∧ w'.cell? ⟨(ad238.add ((x6_1).toNat * 6)).block, (ad238.add ((x6_1).toNat * 6)).off + 5, none⟩ = some (.int .i64 ((rd_T28 l0 x6_1).f4))) (ds := []) #[false, false, false, false, false, false, false, false, false, false, false, false, false, false, false, false] (by kernel_rfl) rfl rfl ⟨(blk_cell BK237.out 0).trans rfl, (blk_cell BK237.out 1).trans rfl, ((HB.out.cell (World.block_lt_of_cell? w _ hw240_0)).trans hw240_0), ((HB.out.cell (World.block_lt_of_cell? w _ hw240_1)).trans hw240_1), ((HB.out.cell (World.block_lt_of_cell? w _ hw240_2)).trans hw240_2), ((HB.out.cell (World.block_lt_of_cell? w _ hw240_3)).trans hw240_3), ((HB.out.cell (World.block_lt_of_cell? w _ hw240_4)).trans hw240_4), ((HB.out.cell (World.block_lt_of_cell? w _ hw240_5)).trans hw240_5)⟩ (fun hHeld => ?_); refine with_tabW board_alarms_find.tab4 board_alarms_find.bits4 (fun HT_ HW_ => ?_)
      generalize w11.drew = w12 at BK237 HB hx240_0 hx240_1 hx240_2 hx240_3 hx240_4 hx240_5 hHeld ⊢
      have Q_ := Qs.mk (n := 16) [(0, 0, 22, 1), (0, 1, 23, 3), (0, 2, 24, 7), (0, 3, 25, 15), (0, 4, 26, 31), (0, 5, 27, 63), (0, 6, 28, 127), (0, 7, 29, 255), (0, 8, 30, 511), (0, 9, 31, 1023), (0, 14, 4, 17407), (2, 10, 32, 18431), (2, 11, 33, 20479), (0, 12, 34, 24575), (0, 13, 35, 32767), (0, 15, 5, 65535)]
      iterate 16 (first | (obtain ⟨q_, Q_⟩ := Qs.p Q_; refine pureQ_ q_ (v := ?_) (a' := ?_) rfl rfl (any_of HT_.out (by kernel_rfl)) (fun _ _ _ h => h) (Or.inl ⟨by rfl, ?_⟩) ?_ ?_; rotate_left; (intro w'; go_simp; with_reducible rfl); rotate_left; (simp only [Act.put, List.setIfInBounds_toArray, List.set_cons_zero, List.set_cons_succ, i64_w, i32_w]; rfl)) | (obtain ⟨q_, Q_⟩ := Qs.t Q_; refine takeQ_ q_ (v := ?_) (a' := ?_) rfl rfl (take_ofW HT_.out HW_.out (by kernel_rfl)) (fun _ _ _ h => h) (Or.inl ⟨by rfl, ?_⟩) hHeld ?_ ?_; rotate_left; (rintro w' ⟨s0, s1, s2, s3, s4, s5, s6, s7⟩; go_simp; with_reducible rfl); rotate_left; (simp only [Act.put, List.setIfInBounds_toArray, List.set_cons_zero, List.set_cons_succ, i64_w, i32_w]; rfl)))
      clear Q_
      refine done_ (done_of HT_.out (by kernel_rfl)) ?_
      try go_wp2
      go_ret2
      exact ⟨by first | rfl | (simp [errW_none, errW_some] <;> rfl) | (simp [*, errW_none, errW_some] <;> rfl), by repeat (with_reducible first | exact HB.out | apply pw_below_drewN | apply below_drew1 | refine below_set ?_ GE237.out)⟩
    ·rw [if_neg c5] at H
     exact absurd H (by simp)
   ·rw [if_neg c4] at H
    have c4b0 : decide (x6_1 < (l0.length : Int)) = false := decide_eq_false c4
    clear c4
    simp only [Option.some.injEq, Prod.mk.injEq] at H
    obtain ⟨rfl, rfl⟩ := H
    try go_wp2
    replace BK237 := Aside0.mk (blk_drew BK237.out)
    replace HB := Aside0.mk (below_drew1 HB.out)
    refine start_ (n := 13) (S := fun w' => True) (ds := []) #[false, false, false, false, false, false, false, false, false, false, false, false, false] (by kernel_rfl) rfl rfl trivial (fun hHeld => ?_); refine with_tabW board_alarms_find.tab2 board_alarms_find.bits2 (fun HT_ HW_ => ?_)
    generalize wr.drew = w13 at BK237 HB hHeld ⊢
    have Q_ := Qs.mk (n := 13) [(0, 0, 7, 1), (0, 1, 8, 3), (0, 2, 9, 7), (0, 3, 10, 15), (0, 4, 11, 31), (1, 5, 12, 63), (1, 6, 13, 127), (1, 7, 14, 255), (1, 8, 15, 511), (1, 9, 16, 1023), (1, 10, 17, 2047), (1, 11, 18, 4095), (0, 12, 19, 8191)]
    iterate 13 (first | (obtain ⟨q_, Q_⟩ := Qs.p Q_; refine pureQ_ q_ (v := ?_) (a' := ?_) rfl rfl (any_of HT_.out (by kernel_rfl)) (fun _ _ _ h => h) (Or.inl ⟨by rfl, ?_⟩) ?_ ?_; rotate_left; (intro w'; go_simp; with_reducible rfl); rotate_left; (simp only [Act.put, List.setIfInBounds_toArray, List.set_cons_zero, List.set_cons_succ, i64_w, i32_w]; rfl)) | (obtain ⟨q_, Q_⟩ := Qs.u Q_; refine pureQ_ q_ (v := undef) (a' := ?_) rfl rfl (any_of HT_.out (by kernel_rfl)) (fun _ _ _ h => h) (Or.inr ⟨by rfl, rfl⟩) ?_ ?_; rotate_left; (simp only [Act.put, List.setIfInBounds_toArray, List.set_cons_zero, List.set_cons_succ, i64_w, i32_w]; rfl)))
    clear Q_
    refine done_ (done_of HT_.out (by kernel_rfl)) ?_
    try go_wp2
    replace BK237 := Aside0.mk (blk_drew BK237.out)
    replace HB := Aside0.mk (below_drew1 HB.out)
    refine start_ (n := 16) (S := fun w' => True) (ds := []) #[false, false, false, false, false, false, false, false, false, false, false, false, false, false, false, false] (by kernel_rfl) rfl rfl trivial (fun hHeld => ?_); refine with_tabW board_alarms_find.tab4 board_alarms_find.bits4 (fun HT_ HW_ => ?_)
    generalize w13.drew = w14 at BK237 HB hHeld ⊢
    have Q_ := Qs.mk (n := 16) [(0, 0, 22, 1), (0, 1, 23, 3), (0, 2, 24, 7), (0, 3, 25, 15), (0, 4, 26, 31), (0, 5, 27, 63), (1, 6, 28, 127), (1, 7, 29, 255), (1, 8, 30, 511), (1, 9, 31, 1023), (1, 10, 32, 2047), (1, 11, 33, 4095), (1, 12, 34, 8191), (0, 13, 35, 16383), (0, 14, 4, 32767), (0, 15, 5, 65535)]
    iterate 16 (first | (obtain ⟨q_, Q_⟩ := Qs.p Q_; refine pureQ_ q_ (v := ?_) (a' := ?_) rfl rfl (any_of HT_.out (by kernel_rfl)) (fun _ _ _ h => h) (Or.inl ⟨by rfl, ?_⟩) ?_ ?_; rotate_left; (intro w'; go_simp; with_reducible rfl); rotate_left; (simp only [Act.put, List.setIfInBounds_toArray, List.set_cons_zero, List.set_cons_succ, i64_w, i32_w]; rfl)) | (obtain ⟨q_, Q_⟩ := Qs.u Q_; refine pureQ_ q_ (v := undef) (a' := ?_) rfl rfl (any_of HT_.out (by kernel_rfl)) (fun _ _ _ h => h) (Or.inr ⟨by rfl, rfl⟩) ?_ ?_; rotate_left; (simp only [Act.put, List.setIfInBounds_toArray, List.set_cons_zero, List.set_cons_succ, i64_w, i32_w]; rfl)))
    clear Q_
    refine done_ (done_of HT_.out (by kernel_rfl)) ?_
    try go_wp2
    go_ret2
    exact ⟨by first | rfl | (simp [errW_none, errW_some] <;> rfl) | (simp [*, errW_none, errW_some] <;> rfl), by repeat (with_reducible first | exact HB.out | apply pw_below_drewN | apply below_drew1 | refine below_set ?_ GE237.out)⟩

/-! ### board_sheet_now: function 53 -/
def board_sheet_now.f (l0_0 : List (S28)) (a0_1 : Int) (a0_2 : Int) (l0_3 : List (S28)) (l1 : List (S28)) : Option (Int × Int × (List (S28))) := some (a0_1, a0_2, l1)
set_option maxHeartbeats 8000000 in
set_option maxRecDepth 100000 in
theorem board_sheet_now.calls (A0_0 : Option Addr) (c0_0 : Nat) (l0_0 : List (S28)) (a0_1 : Int) (a0_2 : Int) (A0_3 : Option Addr) (c0_3 : Nat) (l0_3 : List (S28)) (P1_ : Nat → Prop) (u9000_ : Value) (l1 : List (S28)) (r1 : Int) (r2 : Int) (r3 : List (S28)) (w0 w : World) (hB : Below w0.heap.size w0 w) (hr0_0 : ∀ W_, Kept w W_ (fun k_ => P1_ k_) → Kd.C k28 W_ A0_0 l0_0.length l0_0) (hc0_0 : l0_0.length ≤ c0_0) (hr0_3 : ∀ W_, Kept w W_ (fun k_ => P1_ k_) → Kd.C k28 W_ A0_3 l0_3.length l0_3) (hc0_3 : l0_3.length ≤ c0_3) (ho1 : Kd.R k28 28 w w0.heap.size P1_ u9000_ l1) (h : board_sheet_now.f l0_0 a0_1 a0_2 l0_3 l1 = some (r1, r2, r3)) :
  Calls Try.prog 53 #[.agg #[.slice A0_0 l0_0.length c0_0, .int .i64 a0_1, .int .i64 a0_2, .slice A0_3 l0_3.length c0_3], u9000_] w fun e w' => ∃ v2_ : Value, e = .returned (.agg #[.int .i64 r1, .int .i64 r2, v2_]) ∧ Kd.R k28 28 w' w0.heap.size (fun k_ => (P1_ k_ ∨ w.heap.size ≤ k_)) v2_ r3 ∧ Below w0.heap.size w0 w' ∧ Kept w w' (fun k_ => P1_ k_) := by
 have hu72 := Try.underlying72
 have hu24 := Try.underlying24
 have HR0_0 := Aside0.mk hr0_0
 have HC0_0 := Aside0.mk hc0_0
 clear hr0_0 hc0_0
 have HR0_3 := Aside0.mk hr0_3
 have HC0_3 := Aside0.mk hc0_3
 clear hr0_3 hc0_3
 have HO1 := Aside0.mk (show Kd.R k28 28 w w0.heap.size (fun k_ => (P1_ k_ ∨ w.heap.size ≤ k_)) u9000_ l1 from Kd.R_mono ho1 (fun k_ hk => (.inl hk)))
 have HK := Aside0.mk (Kept.refl w (fun k_ => P1_ k_))
 have HW0 := Aside0.mk hB.size
 have HB := Aside0.mk hB
 clear hB
 have H : (some (a0_1, a0_2, l1)) = some (r1, r2, r3) := h
 clear h
 simp only [Option.some.injEq, Prod.mk.injEq] at H
 obtain ⟨rfl, rfl, rfl⟩ := H
 go_enter Try.func53, Try.ntmps53
 go_wp2_with (first | ((with_reducible refine gate_dst (N := 2) rfl ?_); refine box_event ?hg (N := 2) ?hd (cs := #[.slice A0_0 l0_0.length c0_0, .int .i64 a0_1, .int .i64 a0_2, .slice A0_3 l0_3.length c0_3]) (t := 72) ?hr ?_; (case hd => rfl); (case hg => rfl); (case hr => first | (go_simp; done) | (go_simp; rfl)); intro gb241 hg w3 hbox hb; replace HO1 := rb_ HO1 hb; have BK241 := Aside0.mk (hbox); have GW241 := Aside0.mk ((by rw [hg]; exact (by first | exact HK.out.1 | exact (show Kept w _ (fun k_ => P1_ k_) from by repeat (first | (with_reducible first | exact HK.out | apply Kept.alloc | apply Kept.drewN | apply Kept.drew) | exact HK.out)).1) : w.heap.size ≤ gb241)); replace HK := Aside0.mk (Kept.below (S := (fun k_ => P1_ k_)) (by repeat (first | (with_reducible first | exact HK.out | apply Kept.alloc | apply Kept.drewN | apply Kept.drew) | exact HK.out)) hb); have GE241 := Aside0.mk ((by rw [hg]; exact (below_size HB.out) : w0.heap.size ≤ gb241)); replace HB := Aside0.mk (below_step HB.out hb); clear hb hbox hg) | ((with_reducible refine gate_dst (N := 4) rfl ?_); refine box_event ?hg (N := 4) ?hd (cs := #[.int .i64 0, .int .i64 0, .slice none 0 0]) (t := 24) ?hr ?_; (case hd => rfl); (case hg => rfl); (case hr => first | (go_simp; done) | (go_simp; rfl)); intro gb242 hg w4 hbox hb; replace HO1 := rb_ HO1 hb; have BK242 := Aside0.mk (hbox); have GW242 := Aside0.mk ((by rw [hg]; exact (by first | exact HK.out.1 | exact (show Kept w _ (fun k_ => P1_ k_) from by repeat (first | (with_reducible first | exact HK.out | apply Kept.alloc | apply Kept.drewN | apply Kept.drew | refine Kept.setCell ?_ (.inr GW241.out) _) | exact HK.out)).1) : w.heap.size ≤ gb242)); replace HK := Aside0.mk (Kept.below (S := (fun k_ => P1_ k_)) (by repeat (first | (with_reducible first | exact HK.out | apply Kept.alloc | apply Kept.drewN | apply Kept.drew | refine Kept.setCell ?_ (.inr GW241.out) _) | exact HK.out)) hb); have GE242 := Aside0.mk ((by rw [hg]; exact (below_size (by repeat (with_reducible first | exact HB.out | apply pw_below_drewN | apply below_drew1 | refine below_set ?_ GE241.out))) : w0.heap.size ≤ gb242)); replace HB := Aside0.mk (below_step (by repeat (with_reducible first | exact HB.out | apply pw_below_drewN | apply below_drew1 | refine below_set ?_ GE241.out)) hb); have NB241_242 := Aside0.mk ((by rw [hg]; exact Nat.ne_of_lt (blk_lt BK241.out) : gb241 ≠ gb242)); have NB242_241 := Aside0.mk ((by rw [hg]; exact Nat.ne_of_gt (blk_lt BK241.out) : gb242 ≠ gb241)); replace BK241 := bl_ BK241 hb; clear hb hbox hg; have hnb5 := NB241_242.out; have hnc5 := NB242_241.out; have hcz6_0 : w4.cell? ⟨gb241, 0, none⟩ = some (.slice A0_0 l0_0.length c0_0) := (blk_cell BK241.out 0).trans rfl; have hcz6_1 : w4.cell? ⟨gb241, 1, none⟩ = some (.int .i64 a0_1) := (blk_cell BK241.out 1).trans rfl; have hcz6_2 : w4.cell? ⟨gb241, 2, none⟩ = some (.int .i64 a0_2) := (blk_cell BK241.out 2).trans rfl; have hcz6_3 : w4.cell? ⟨gb241, 3, none⟩ = some (.slice A0_3 l0_3.length c0_3) := (blk_cell BK241.out 3).trans rfl; have hfz6_0 := blk_frozen BK241.out 0; have hfz6_1 := blk_frozen BK241.out 1; have hfz6_2 := blk_frozen BK241.out 2; have hfz6_3 := blk_frozen BK241.out 3; obtain ⟨Ao7, co7, eo7⟩ := Kd.R_slice HO1.out; subst eo7; have hcz8_0 : w4.cell? ⟨gb242, 0, none⟩ = some (.int .i64 0) := (blk_cell BK242.out 0).trans rfl; have hcz8_1 : w4.cell? ⟨gb242, 1, none⟩ = some (.int .i64 0) := (blk_cell BK242.out 1).trans rfl; have hcz8_2 : w4.cell? ⟨gb242, 2, none⟩ = some (.slice none 0 0) := (blk_cell BK242.out 2).trans rfl; have hfz8_0 := blk_frozen BK242.out 0; have hfz8_1 := blk_frozen BK242.out 1; have hfz8_2 := blk_frozen BK242.out 2))
 refine bodyPost_ret (results_cell_row rfl _ _ gb242 24 #[.int .i64 a0_1, .int .i64 a0_2, .slice Ao7 l1.length co7] (0, 0) _ rfl (by refine blk_put (cs := #[.int .i64 a0_1, .int .i64 a0_2, .slice none 0 0]) ?_ 2 _ rfl; refine blk_put (cs := #[.int .i64 a0_1, .int .i64 0, .slice none 0 0]) ?_ 1 _ rfl; refine blk_put (cs := #[.int .i64 0, .int .i64 0, .slice none 0 0]) ?_ 0 _ rfl; exact BK242.out) Try.underlying24 rfl (by kernel_rfl)) rfl ?_
 exact ⟨_, by first | rfl | (simp [errW_none, errW_some] <;> rfl) | (simp [*, errW_none, errW_some] <;> rfl), by (with_reducible repeat (first | apply Kd.R_alloc | apply Kd.R_drewN | apply Kd.R_drew)); exact Kd.R_mono (rf3 (Kd.R_types HO1.out BK242.out (by decide)) (fun _ hk => hk.2) (.int .i64 a0_1) (.int .i64 a0_2) (.slice Ao7 l1.length co7)) (fun _ hk => hk.1), by repeat (with_reducible first | exact HB.out | apply pw_below_drewN | apply below_drew1 | refine below_set ?_ (Aside0.out (by assumption))), by repeat (first | (with_reducible first | exact HK.out | apply Kept.alloc | apply Kept.drewN | apply Kept.drew | refine Kept.setCell ?_ (.inr GW241.out) _ | refine Kept.setCell ?_ (.inr GW242.out) _) | exact HK.out)⟩

/-! ### api_Alarm_100: function 100 -/
def api_Alarm_100.f (l0 : List S28) (a1 : Int) : Option (List S28) := if 0 ≤ a1 then if a1 < 2199023255552 then some [] else none else none
set_option maxHeartbeats 8000000 in
set_option maxRecDepth 100000 in
theorem api_Alarm_100.calls (a1 : Int) (r : List S28) (w : World) (h : api_Alarm_100.f [] a1 = some r) :
    Calls Try.prog 100 #[.slice none 0 0, .int .i64 a1] w fun e w' => ∃ v0_ : Value, e = .returned (v0_) ∧ Kd.R k28 28 w' w.heap.size (fun _ => True) v0_ r ∧ Below w.heap.size w w' := by
  unfold api_Alarm_100.f at h
  by_cases c1 : 0 ≤ a1
  · rw [if_pos c1] at h
    by_cases c2 : a1 < 2199023255552
    · rw [if_pos c2] at h
      obtain rfl := Option.some.inj h
      have b1 : decide (a1 < 0) = false := decide_eq_false (by omega)
      by_cases c3 : 0 < a1
      · have b3 : decide (0 < a1) = true := decide_eq_true c3
        go_enter Try.func100, Try.ntmps100
        go_wp2_with ((with_reducible refine gate_builtin (b := .append) (xs := #[.tmp 20, .tmp 21]) rfl ?_); at_builtin; refine Kd.R_append_zeros k28 (w0 := w) w.heap.size rfl (.tmp 20) (.tmp 21) 70 3 28 (.agg #[.int .i64 0, .int .i64 0, .int .i64 0, .int .i64 0, .int .i64 0, .int .i64 0]) 48 rfl Try.underlying70 Try.underlying3 info28 rfl (by decide) (by omega) (.slice none 0 0) ([] : List S28) z28 a1 (fun _ => True) rfl rfl (k28_mkM _ _ _ z28) (fun _ _ => trivial) ?aO c1 ?aB ?aS ?aL ?_; (case aB => exact (by repeat (first | exact Below.refl _ _ | apply pw_below_drewN | apply below_drew1))); (case aO => exact Kd.R_nil _ _ _ _ _); (case aS => exact Nat.le_refl _); (case aL => simp; omega); intro v157 w3 ho hb hg hat; obtain ⟨A, c, rfl⟩ := Kd.R_slice ho; have HB := Aside0.mk (hb); have HO := Aside0.mk (Kd.R_take (m := 0) ho (Nat.zero_le _)); clear ho hb hg hat)
        go_ret
        exact ⟨_, rfl, HO.out, HB.out⟩
      · obtain rfl : a1 = 0 := by omega
        clear h c1 c2 c3 b1
        go_enter Try.func100, Try.ntmps100
        go_wp2
        go_ret
        exact ⟨_, rfl, Kd.R_nil _ _ _ _ _, Below.refl _ _⟩
    · rw [if_neg c2] at h
      exact absurd h (by simp)
  · rw [if_neg c1] at h
    exact absurd h (by simp)

end Go.Proofs.Ytcfpbmdndapeaaa.F
