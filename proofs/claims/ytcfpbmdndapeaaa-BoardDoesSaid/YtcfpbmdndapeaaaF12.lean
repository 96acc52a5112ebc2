-- Written by a program of this session (xprint.py), out of the translation and of contracts proved by hand.
import Derived.Test.YtcfpbmdndapeaaaF0
import Derived.Test.YtcfpbmdndapeaaaF1
import Derived.Test.YtcfpbmdndapeaaaF3
import Derived.Test.YtcfpbmdndapeaaaF5
import Derived.Test.YtcfpbmdndapeaaaF6
import Derived.Test.YtcfpbmdndapeaaaF9
import Derived.Test.YtcfpbmdndapeaaaF10
namespace Go.Proofs.Ytcfpbmdndapeaaa.F
open Go.RowKit Go.Proofs.YtcfpbmdndapeaaaV.PrintWords Go.Proofs.YtcfpbmdndapeaaaV.PrintLast Go.Proofs.YtcfpbmdndapeaaaV.PrintMore
attribute [local go_sem] max2_int min2_int max_two min_two max_three min_three max_four min_four   -- for this text's walks alone
set_option linter.unusedVariables false
set_option linter.unusedSimpArgs false

/-! ### board_Drop: function 17 -/
def board_Drop.f (k : Nat) (a0_0 : Int) (a0_1 : Int) (l0_2 : List (S28)) (a1_0 : Int) (a1_1 : Int) : Option (Int × Int × (List (S28)) × Int) := (board_Is.f k a0_0 a0_1 l0_2).bind fun t225 => (if t225 = true then ((board_open.f a0_0 a0_1 l0_2).bind fun bt226 => ((board_alarms_find.f k bt226.1 a1_0 a1_1).bind fun bt235 => (if bt235.2 = true then ((board_alarms_with.f k bt226.1 bt235.1 1 ([] : List (S28))).bind fun t237 => ((board_sheet_now.f bt226.1 bt226.2.1 bt226.2.2.1 bt226.2.2.2 t237).bind fun bt240 => (some (bt240.1, bt240.2.1, bt240.2.2, 0)))) else (some (0, 0, ([] : List (S28)), 80))))) else (some (0, 0, ([] : List (S28)), 1)))
theorem board_Drop.mono : ∀ a0 a1 a2 a3 a4 k, LeO (board_Drop.f k a0 a1 a2 a3 a4) (board_Drop.f (k + 1) a0 a1 a2 a3 a4) := by
 intro a0 a1 a2 a3 a4 k
 unfold board_Drop.f
 repeat' first
   | (with_reducible exact board_Is.mono _ _ _ _)
   | (with_reducible exact board_alarms_find.mono _ _ _ _)
   | (with_reducible exact board_alarms_with.mono _ _ _ _ _)
   | (with_reducible exact LeO.refl _)
   | (with_reducible exact LeO.none _)
   | (with_reducible refine LeO.ite ?_ ?_)
   | (with_reducible refine LeO.bind ?_ (fun _ => ?_))
   | exact board_Is.mono _ _ _ _
   | exact board_alarms_find.mono _ _ _ _
   | exact board_alarms_with.mono _ _ _ _ _
   | exact LeO.none _
   | refine LeO.ite ?_ ?_
   | refine LeO.bind ?_ (fun _ => ?_)
def board_Drop.T7 : Bool × List (List Nat × List Nat) := (true, [([], []), ([], []), ([1], [1]), ([], []), ([2, 3], [2, 3]), ([0, 4, 4], [0, 4]), ([5, 5, 0, 1, 2, 3, 4, 5], [5]), ([6, 0, 1, 2, 3, 4, 5, 6], [])])
def board_Drop.B7 : List Nat := [0, 0, 2, 0, 14, 31, 63, 127]
theorem board_Drop.tab7 : rtab .any (opsOf Try.f17 7) = board_Drop.T7 := by kernel_rfl
theorem board_Drop.bits7 : waitsOk board_Drop.T7.2 board_Drop.B7 = true := by kernel_rfl
set_option maxHeartbeats 8000000 in
set_option maxRecDepth 100000 in
theorem board_Drop.calls (k : Nat) (a0_0 : Int) (a0_1 : Int) (A0_2 : Option Addr) (c0_2 : Nat) (l0_2 : List (S28)) (a1_0 : Int) (a1_1 : Int) (r1 : Int) (r2 : Int) (r3 : List (S28)) (r4 : Int) (w : World) (hr0_2 : Kd.C k28 w A0_2 l0_2.length l0_2) (hc0_2 : l0_2.length ≤ c0_2) (h : board_Drop.f k a0_0 a0_1 l0_2 a1_0 a1_1 = some (r1, r2, r3, r4)) :
  Calls Try.prog 17 #[.agg #[.int .i64 a0_0, .int .i64 a0_1, .slice A0_2 l0_2.length c0_2], .agg #[.int .i64 a1_0, .int .i64 a1_1]] w fun e w' => ∃ v2_ : Value, e = .returned (.tuple #[.agg #[.int .i64 r1, .int .i64 r2, v2_], .int .i64 r4]) ∧ Kd.R k28 28 w' w.heap.size (fun _ => True) v2_ r3 ∧ Below w.heap.size w w' := by
 have hu24 := Try.underlying24
 have hu26 := Try.underlying26
 have hu72 := Try.underlying72
 have HR0_2 := Aside0.mk hr0_2
 have HC0_2 := Aside0.mk hc0_2
 clear hr0_2 hc0_2
 have HB := Aside0.mk (Below.refl w.heap.size w)
 have H : ((board_Is.f k a0_0 a0_1 l0_2).bind fun t225 => (if t225 = true then ((board_open.f a0_0 a0_1 l0_2).bind fun bt226 => ((board_alarms_find.f k bt226.1 a1_0 a1_1).bind fun bt235 => (if bt235.2 = true then ((board_alarms_with.f k bt226.1 bt235.1 1 ([] : List (S28))).bind fun t237 => ((board_sheet_now.f bt226.1 bt226.2.1 bt226.2.2.1 bt226.2.2.2 t237).bind fun bt240 => (some (bt240.1, bt240.2.1, bt240.2.2, 0)))) else (some (0, 0, ([] : List (S28)), 80))))) else (some (0, 0, ([] : List (S28)), 1)))) = some (r1, r2, r3, r4) := h
 clear h
 replace H := Option.bind_eq_some_iff.mp H
 obtain ⟨t225, A30, H⟩ := H
 try dsimp only at H
 have A3 := Aside0.mk A30
 clear A30
 by_cases c4 : t225 = true
 ·subst c4
  rw [if_pos rfl] at H; try dsimp only at H
  replace H := Option.bind_eq_some_iff.mp H
  obtain ⟨⟨t226, t229, t230, t231⟩, A50, H⟩ := H
  try dsimp only at H
  have A5 := Aside0.mk A50
  clear A50
  replace H := Option.bind_eq_some_iff.mp H
  obtain ⟨⟨t235, t236⟩, A60, H⟩ := H
  try dsimp only at H
  have A6 := Aside0.mk A60
  clear A60
  by_cases c7 : t236 = true
  ·subst c7
   rw [if_pos rfl] at H; try dsimp only at H
   replace H := Option.bind_eq_some_iff.mp H
   obtain ⟨t237, A80, H⟩ := H
   try dsimp only at H
   have A8 := Aside0.mk A80
   clear A80
   replace H := Option.bind_eq_some_iff.mp H
   obtain ⟨⟨t240, t241, t242⟩, A90, H⟩ := H
   try dsimp only at H
   have A9 := Aside0.mk A90
   clear A90
   simp only [Option.some.injEq, Prod.mk.injEq] at H
   obtain ⟨rfl, rfl, rfl, rfl⟩ := H
   go_enter Try.func17, Try.ntmps17
   try go_wp2_with (first | ((with_reducible refine gate_dst (N := 2) rfl ?_); refine box_event ?hg (N := 2) ?hd (cs := #[.int .i64 a0_0, .int .i64 a0_1, .slice A0_2 l0_2.length c0_2]) (t := 24) ?hr ?_; (case hd => rfl); (case hg => rfl); (case hr => first | (go_simp; done) | (go_simp; rfl)); intro gb222 hg w10 hbox hb; have BK222 := Aside0.mk (hbox); have GW222 := Aside0.mk ((by rw [hg]; exact (below_size HB.out) : w.heap.size ≤ gb222)); have GE222 := Aside0.mk ((by rw [hg]; exact (below_size HB.out) : w.heap.size ≤ gb222)); replace HB := Aside0.mk (below_step HB.out hb); clear hb hbox hg) | ((with_reducible refine gate_dst (N := 3) rfl ?_); refine box_event ?hg (N := 3) ?hd (cs := #[.int .i64 a1_0, .int .i64 a1_1]) (t := 26) ?hr ?_; (case hd => rfl); (case hg => rfl); (case hr => first | (go_simp; done) | (go_simp; rfl)); intro gb223 hg w11 hbox hb; have BK223 := Aside0.mk (hbox); have GW223 := Aside0.mk ((by rw [hg]; exact (below_size (by repeat (with_reducible first | exact HB.out | apply pw_below_drewN | apply below_drew1 | refine below_set ?_ GE222.out))) : w.heap.size ≤ gb223)); have GE223 := Aside0.mk ((by rw [hg]; exact (below_size (by repeat (with_reducible first | exact HB.out | apply pw_below_drewN | apply below_drew1 | refine below_set ?_ GE222.out))) : w.heap.size ≤ gb223)); replace HB := Aside0.mk (below_step (by repeat (with_reducible first | exact HB.out | apply pw_below_drewN | apply below_drew1 | refine below_set ?_ GE222.out)) hb); have NB222_223 := Aside0.mk ((by rw [hg]; exact Nat.ne_of_lt (blk_lt BK222.out) : gb222 ≠ gb223)); have NB223_222 := Aside0.mk ((by rw [hg]; exact Nat.ne_of_gt (blk_lt BK222.out) : gb223 ≠ gb222)); replace BK222 := bl_ BK222 hb; clear hb hbox hg) | ((with_reducible refine gate_dst (N := 4) rfl ?_); refine box_event ?hg (N := 4) ?hd (cs := #[.int .i64 0, .int .i64 0, .slice none 0 0]) (t := 24) ?hr ?_; (case hd => rfl); (case hg => rfl); (case hr => first | (go_simp; done) | (go_simp; rfl)); intro gb224 hg w12 hbox hb; have BK224 := Aside0.mk (hbox); have GW224 := Aside0.mk ((by rw [hg]; exact (below_size (by repeat (with_reducible first | exact HB.out | apply pw_below_drewN | apply below_drew1 | refine below_set ?_ (Aside0.out (by assumption))))) : w.heap.size ≤ gb224)); have GE224 := Aside0.mk ((by rw [hg]; exact (below_size (by repeat (with_reducible first | exact HB.out | apply pw_below_drewN | apply below_drew1 | refine below_set ?_ (Aside0.out (by assumption))))) : w.heap.size ≤ gb224)); replace HB := Aside0.mk (below_step (by repeat (with_reducible first | exact HB.out | apply pw_below_drewN | apply below_drew1 | refine below_set ?_ (Aside0.out (by assumption)))) hb); have NB222_224 := Aside0.mk ((by rw [hg]; exact Nat.ne_of_lt (blk_lt BK222.out) : gb222 ≠ gb224)); have NB224_222 := Aside0.mk ((by rw [hg]; exact Nat.ne_of_gt (blk_lt BK222.out) : gb224 ≠ gb222)); replace BK222 := bl_ BK222 hb; have NB223_224 := Aside0.mk ((by rw [hg]; exact Nat.ne_of_lt (blk_lt BK223.out) : gb223 ≠ gb224)); have NB224_223 := Aside0.mk ((by rw [hg]; exact Nat.ne_of_gt (blk_lt BK223.out) : gb224 ≠ gb223)); replace BK223 := bl_ BK223 hb; clear hb hbox hg; have hnb13 := NB222_223.out; have hnc13 := NB223_222.out; have hnb14 := NB222_224.out; have hnc14 := NB224_222.out; have hcz15_0 : w12.cell? ⟨gb222, 0, none⟩ = some (.int .i64 a0_0) := (blk_cell BK222.out 0).trans rfl; have hcz15_1 : w12.cell? ⟨gb222, 1, none⟩ = some (.int .i64 a0_1) := (blk_cell BK222.out 1).trans rfl; have hcz15_2 : w12.cell? ⟨gb222, 2, none⟩ = some (.slice A0_2 l0_2.length c0_2) := (blk_cell BK222.out 2).trans rfl; have hfz15_0 := blk_frozen BK222.out 0; have hfz15_1 := blk_frozen BK222.out 1; have hfz15_2 := blk_frozen BK222.out 2) | ((with_reducible refine gate_callee (f := 32) rfl ?_); refine goesL_ (some 10) rfl rfl Try.func32 (by kernel_rfl) rfl #[.agg #[.int .i64 a0_0, .int .i64 a0_1, .slice A0_2 l0_2.length c0_2]] rfl (by (try simp only [List.map_toArray, List.map_cons, List.map_nil]); first | done | rfl | (simp only [List.length_drop, List.length_take]; rfl)) ?_; (with_reducible refine (board_Is.calls k a0_0 a0_1 _ _ l0_2 true _ ?side1 ?side2 A3.out).mono ?_); (case side1 => exact (Kd.C_below HR0_2.out HB.out)); (case side2 => exact HC0_2.out); rintro e w16 ⟨rfl, hb⟩; refine ⟨_, rfl, ?_⟩; replace BK222 := bl_ BK222 hb; replace BK223 := bl_ BK223 hb; replace BK224 := bl_ BK224 hb; replace HB := Aside0.mk (below_step (by repeat (with_reducible first | exact HB.out | apply pw_below_drewN | apply below_drew1 | refine below_set ?_ (Aside0.out (by assumption)))) hb); (try clear hb); (try clear hb2); (try clear hk); (try clear hi); have hcz17_0 : w16.cell? ⟨gb222, 0, none⟩ = some (.int .i64 a0_0) := (blk_cell BK222.out 0).trans rfl; have hcz17_1 : w16.cell? ⟨gb222, 1, none⟩ = some (.int .i64 a0_1) := (blk_cell BK222.out 1).trans rfl; have hcz17_2 : w16.cell? ⟨gb222, 2, none⟩ = some (.slice A0_2 l0_2.length c0_2) := (blk_cell BK222.out 2).trans rfl; have hfz17_0 := blk_frozen BK222.out 0; have hfz17_1 := blk_frozen BK222.out 1; have hfz17_2 := blk_frozen BK222.out 2) | ((with_reducible refine gate_callee (f := 51) rfl ?_); refine goesL_ (some 14) rfl rfl Try.func51 (by kernel_rfl) rfl #[.agg #[.int .i64 a0_0, .int .i64 a0_1, .slice A0_2 l0_2.length c0_2]] rfl (by (try simp only [List.map_toArray, List.map_cons, List.map_nil]); first | done | rfl | (simp only [List.length_drop, List.length_take]; rfl)) ?_; (with_reducible refine (board_open.calls a0_0 a0_1 (fun k_ => k_ < w.heap.size) _ _ l0_2 t226 t229 t230 t231 _ ?side1 A5.out).mono ?_); (case side1 => exact Kd.V_mk HC0_2.out (Kd.F_below (Kd.C_F k28_heap HR0_2.out) (by repeat (with_reducible first | exact HB.out | apply pw_below_drewN | apply below_drew1 | refine below_set ?_ (Aside0.out (by assumption)))))); rintro e w18 ⟨v227, v232, rfl, ho0, ho1, hb⟩; refine ⟨_, rfl, ?_⟩; have HO228 := Aside0.mk (Kd.V_lower (Kd.V_mono (ok' := fun k_ => k_ ≠ gb222 ∧ k_ ≠ gb223 ∧ k_ ≠ gb224) ho0 (fun k_ hk_ => ⟨Or.elim hk_ (fun hs_ => fun e_ => Nat.not_le.2 hs_ (by rw [e_]; exact GW222.out)) (fun hn_ => (Kd.freshB (g := gb222) (o := .cells #[.int .i64 a0_0, .int .i64 a0_1, .slice A0_2 l0_2.length c0_2] 24 (0, 0)) BK222.out k_ hn_)), Or.elim hk_ (fun hs_ => fun e_ => Nat.not_le.2 hs_ (by rw [e_]; exact GW223.out)) (fun hn_ => (Kd.freshB (g := gb223) (o := .cells #[.int .i64 a1_0, .int .i64 a1_1] 26 (0, 0)) BK223.out k_ hn_)), Or.elim hk_ (fun hs_ => fun e_ => Nat.not_le.2 hs_ (by rw [e_]; exact GW224.out)) (fun hn_ => (Kd.freshB (g := gb224) (o := .cells #[.int .i64 0, .int .i64 0, .slice none 0 0] 24 (0, 0)) BK224.out k_ hn_))⟩)) (below_size (by repeat (with_reducible first | exact HB.out | apply pw_below_drewN | apply below_drew1 | refine below_set ?_ (Aside0.out (by assumption)))))); have HO233 := Aside0.mk (Kd.V_lower (Kd.V_mono (ok' := fun k_ => k_ ≠ gb222 ∧ k_ ≠ gb223 ∧ k_ ≠ gb224) ho1 (fun k_ hk_ => ⟨Or.elim hk_ (fun hs_ => fun e_ => Nat.not_le.2 hs_ (by rw [e_]; exact GW222.out)) (fun hn_ => (Kd.freshB (g := gb222) (o := .cells #[.int .i64 a0_0, .int .i64 a0_1, .slice A0_2 l0_2.length c0_2] 24 (0, 0)) BK222.out k_ hn_)), Or.elim hk_ (fun hs_ => fun e_ => Nat.not_le.2 hs_ (by rw [e_]; exact GW223.out)) (fun hn_ => (Kd.freshB (g := gb223) (o := .cells #[.int .i64 a1_0, .int .i64 a1_1] 26 (0, 0)) BK223.out k_ hn_)), Or.elim hk_ (fun hs_ => fun e_ => Nat.not_le.2 hs_ (by rw [e_]; exact GW224.out)) (fun hn_ => (Kd.freshB (g := gb224) (o := .cells #[.int .i64 0, .int .i64 0, .slice none 0 0] 24 (0, 0)) BK224.out k_ hn_))⟩)) (below_size (by repeat (with_reducible first | exact HB.out | apply pw_below_drewN | apply below_drew1 | refine below_set ?_ (Aside0.out (by assumption)))))); replace BK222 := bl_ BK222 hb; replace BK223 := bl_ BK223 hb; replace BK224 := bl_ BK224 hb; replace HB := Aside0.mk (below_step (by repeat (with_reducible first | exact HB.out | apply pw_below_drewN | apply below_drew1 | refine below_set ?_ (Aside0.out (by assumption)))) hb); (try clear hb); (try clear hb2); (try clear hk); (try clear hi); (try clear ho0); (try clear ho1)) | ((with_reducible refine gate_dst (N := 6) rfl ?_); refine box_event ?hg (N := 6) ?hd (cs := #[.slice none 0 0, .int .i64 0, .int .i64 0, .slice none 0 0]) (t := 72) ?hr ?_; (case hd => rfl); (case hg => rfl); (case hr => first | (go_simp; done) | (go_simp; rfl)); intro gb234 hg w19 hbox hb; replace HO228 := Aside0.mk (Kd.V_below (Kd.V_elderB (HO228.out) gb234 (Nat.le_of_eq hg.symm)) hb); replace HO233 := Aside0.mk (Kd.V_below (Kd.V_elderB (HO233.out) gb234 (Nat.le_of_eq hg.symm)) hb); have BK234 := Aside0.mk (hbox); have GW234 := Aside0.mk ((by rw [hg]; exact (below_size (by repeat (with_reducible first | exact HB.out | apply pw_below_drewN | apply below_drew1 | refine below_set ?_ (Aside0.out (by assumption))))) : w.heap.size ≤ gb234)); have GE234 := Aside0.mk ((by rw [hg]; exact (below_size (by repeat (with_reducible first | exact HB.out | apply pw_below_drewN | apply below_drew1 | refine below_set ?_ (Aside0.out (by assumption))))) : w.heap.size ≤ gb234)); replace HB := Aside0.mk (below_step (by repeat (with_reducible first | exact HB.out | apply pw_below_drewN | apply below_drew1 | refine below_set ?_ (Aside0.out (by assumption)))) hb); have NB222_234 := Aside0.mk ((by rw [hg]; exact Nat.ne_of_lt (blk_lt BK222.out) : gb222 ≠ gb234)); have NB234_222 := Aside0.mk ((by rw [hg]; exact Nat.ne_of_gt (blk_lt BK222.out) : gb234 ≠ gb222)); replace BK222 := bl_ BK222 hb; have NB223_234 := Aside0.mk ((by rw [hg]; exact Nat.ne_of_lt (blk_lt BK223.out) : gb223 ≠ gb234)); have NB234_223 := Aside0.mk ((by rw [hg]; exact Nat.ne_of_gt (blk_lt BK223.out) : gb234 ≠ gb223)); replace BK223 := bl_ BK223 hb; have NB224_234 := Aside0.mk ((by rw [hg]; exact Nat.ne_of_lt (blk_lt BK224.out) : gb224 ≠ gb234)); have NB234_224 := Aside0.mk ((by rw [hg]; exact Nat.ne_of_gt (blk_lt BK224.out) : gb234 ≠ gb224)); replace BK224 := bl_ BK224 hb; clear hb hbox hg; obtain ⟨Ao20, co20, eo20⟩ := Kd.V_slice HO228.out; subst eo20; have hnb21 := NB234_222.out; have hnc21 := NB222_234.out; have hnb22 := NB234_223.out; have hnc22 := NB223_234.out; have hnb23 := NB234_224.out; have hnc23 := NB224_234.out; have hcz24_0 : w19.cell? ⟨gb234, 0, none⟩ = some (.slice none 0 0) := (blk_cell BK234.out 0).trans rfl; have hcz24_1 : w19.cell? ⟨gb234, 1, none⟩ = some (.int .i64 0) := (blk_cell BK234.out 1).trans rfl; have hcz24_2 : w19.cell? ⟨gb234, 2, none⟩ = some (.int .i64 0) := (blk_cell BK234.out 2).trans rfl; have hcz24_3 : w19.cell? ⟨gb234, 3, none⟩ = some (.slice none 0 0) := (blk_cell BK234.out 3).trans rfl; have hfz24_0 := blk_frozen BK234.out 0; have hfz24_1 := blk_frozen BK234.out 1; have hfz24_2 := blk_frozen BK234.out 2; have hfz24_3 := blk_frozen BK234.out 3; obtain ⟨Ao25, co25, eo25⟩ := Kd.V_slice HO233.out; subst eo25; have hnb26 := NB223_224.out; have hnc26 := NB224_223.out; have hcz27_0 : w19.cell? ⟨gb223, 0, none⟩ = some (.int .i64 a1_0) := (blk_cell BK223.out 0).trans rfl; have hcz27_1 : w19.cell? ⟨gb223, 1, none⟩ = some (.int .i64 a1_1) := (blk_cell BK223.out 1).trans rfl; have hfz27_0 := blk_frozen BK223.out 0; have hfz27_1 := blk_frozen BK223.out 1) | ((with_reducible refine gate_callee (f := 52) rfl ?_); refine goesL_ (some 19) rfl rfl Try.func52 (by kernel_rfl) rfl #[.slice Ao20 t226.length co20, .agg #[.int .i64 a1_0, .int .i64 a1_1]] rfl (by (try simp only [List.map_toArray, List.map_cons, List.map_nil]); first | done | rfl | (simp only [List.length_drop, List.length_take]; rfl)) ?_; (with_reducible refine (board_alarms_find.calls k _ _ t226 a1_0 a1_1 t235 true _ ?side1 ?side2 A6.out).mono ?_); (case side1 => refine (Kd.V_reads' (e := 28) (base := w.heap.size) (ok := fun k_ => ((k_ ≠ gb222 ∧ (k_ ≠ gb223 ∧ k_ ≠ gb224)) ∧ k_ ≠ gb234)) (n := t226.length) (c := co20) ?_).2.2; exact (by (with_reducible repeat (first | apply Kd.V_alloc | apply Kd.V_drewN | apply Kd.V_drew)); exact (Kd.V_mono (Kd.V_far (p := ⟨gb234, 3, none⟩) (Kd.V_far (p := ⟨gb234, 2, none⟩) (Kd.V_far (p := ⟨gb234, 1, none⟩) (Kd.V_far (p := ⟨gb234, 0, none⟩) (Kd.V_mono HO228.out (fun k_ hk => (⟨hk, hk.2⟩ : _ ∧ k_ ≠ gb234))) (fun _ hk => hk.2) (.slice Ao20 t226.length co20)) (fun _ hk => hk.2) (.int .i64 t229)) (fun _ hk => hk.2) (.int .i64 t230)) (fun _ hk => hk.2) (.slice Ao25 t231.length co25)) (fun _ h_ => h_.1)))); (case side2 => exact (Kd.V_reads' HO228.out).2.1); rintro e w28 ⟨rfl, hb⟩; refine ⟨_, rfl, ?_⟩; replace HO228 := Aside0.mk (Kd.V_below (by (with_reducible repeat (first | apply Kd.V_alloc | apply Kd.V_drewN | apply Kd.V_drew)); exact (Kd.V_mono (Kd.V_far (p := ⟨gb234, 3, none⟩) (Kd.V_far (p := ⟨gb234, 2, none⟩) (Kd.V_far (p := ⟨gb234, 1, none⟩) (Kd.V_far (p := ⟨gb234, 0, none⟩) (Kd.V_mono HO228.out (fun k_ hk => (⟨hk, hk.2⟩ : _ ∧ k_ ≠ gb234))) (fun _ hk => hk.2) (.slice Ao20 t226.length co20)) (fun _ hk => hk.2) (.int .i64 t229)) (fun _ hk => hk.2) (.int .i64 t230)) (fun _ hk => hk.2) (.slice Ao25 t231.length co25)) (fun _ h_ => h_.1))) hb); replace HO233 := Aside0.mk (Kd.V_below (by (with_reducible repeat (first | apply Kd.V_alloc | apply Kd.V_drewN | apply Kd.V_drew)); exact (Kd.V_mono (Kd.V_far (p := ⟨gb234, 3, none⟩) (Kd.V_far (p := ⟨gb234, 2, none⟩) (Kd.V_far (p := ⟨gb234, 1, none⟩) (Kd.V_far (p := ⟨gb234, 0, none⟩) (Kd.V_mono HO233.out (fun k_ hk => (⟨hk, hk.2⟩ : _ ∧ k_ ≠ gb234))) (fun _ hk => hk.2) (.slice Ao20 t226.length co20)) (fun _ hk => hk.2) (.int .i64 t229)) (fun _ hk => hk.2) (.int .i64 t230)) (fun _ hk => hk.2) (.slice Ao25 t231.length co25)) (fun _ h_ => h_.1))) hb); replace BK222 := Aside0.mk (blk_below (g := gb222) (o := .cells #[.int .i64 a0_0, .int .i64 a0_1, .slice A0_2 l0_2.length c0_2] 24 (0, 0)) (by refine blk_far ?_ NB222_234.out _; refine blk_far ?_ NB222_234.out _; refine blk_far ?_ NB222_234.out _; refine blk_far ?_ NB222_234.out _; exact BK222.out) hb); replace BK223 := Aside0.mk (blk_below (g := gb223) (o := .cells #[.int .i64 a1_0, .int .i64 a1_1] 26 (0, 0)) (by refine blk_far ?_ NB223_234.out _; refine blk_far ?_ NB223_234.out _; refine blk_far ?_ NB223_234.out _; refine blk_far ?_ NB223_234.out _; exact BK223.out) hb); replace BK224 := Aside0.mk (blk_below (g := gb224) (o := .cells #[.int .i64 0, .int .i64 0, .slice none 0 0] 24 (0, 0)) (by refine blk_far ?_ NB224_234.out _; refine blk_far ?_ NB224_234.out _; refine blk_far ?_ NB224_234.out _; refine blk_far ?_ NB224_234.out _; exact BK224.out) hb); replace BK234 := Aside0.mk (blk_below (g := gb234) (o := .cells #[.slice Ao20 t226.length co20, .int .i64 t229, .int .i64 t230, .slice Ao25 t231.length co25] 72 (0, 0)) (by refine blk_put (cs := #[.slice Ao20 t226.length co20, .int .i64 t229, .int .i64 t230, .slice none 0 0]) ?_ 3 _ rfl; refine blk_put (cs := #[.slice Ao20 t226.length co20, .int .i64 t229, .int .i64 0, .slice none 0 0]) ?_ 2 _ rfl; refine blk_put (cs := #[.slice Ao20 t226.length co20, .int .i64 0, .int .i64 0, .slice none 0 0]) ?_ 1 _ rfl; refine blk_put (cs := #[.slice none 0 0, .int .i64 0, .int .i64 0, .slice none 0 0]) ?_ 0 _ rfl; exact BK234.out) hb); replace HB := Aside0.mk (below_step (by repeat (with_reducible first | exact HB.out | apply pw_below_drewN | apply below_drew1 | refine below_set ?_ (Aside0.out (by assumption)))) hb); (try clear hb); (try clear hb2); (try clear hk); (try clear hi)))
   replace HO228 := Aside0.mk (Kd.V_drew HO228.out)
   replace HO233 := Aside0.mk (Kd.V_drew HO233.out)
   replace BK222 := Aside0.mk (blk_drew BK222.out)
   replace BK223 := Aside0.mk (blk_drew BK223.out)
   replace BK224 := Aside0.mk (blk_drew BK224.out)
   replace BK234 := Aside0.mk (blk_drew BK234.out)
   replace HB := Aside0.mk (below_drew1 HB.out)
   refine start_ (n := 8) (S := fun w' => w'.cell? ⟨gb234, 0, none⟩ = some (.slice Ao20 t226.length co20) ∧ w'.cell? ⟨gb234, 1, none⟩ = some (.int .i64 t229) ∧ w'.cell? ⟨gb234, 2, none⟩ = some (.int .i64 t230) ∧ w'.cell? ⟨gb234, 3, none⟩ = some (.slice Ao25 t231.length co25)) (ds := []) #[false, false, false, false, false, false, false, false] (by kernel_rfl) rfl rfl ⟨(blk_cell BK234.out 0).trans rfl, (blk_cell BK234.out 1).trans rfl, (blk_cell BK234.out 2).trans rfl, (blk_cell BK234.out 3).trans rfl⟩ (fun hHeld => ?_); refine with_tabW board_Drop.tab7 board_Drop.bits7 (fun HT_ HW_ => ?_)
   generalize w28.drew = w29 at HO228 HO233 BK222 BK223 BK224 BK234 HB hHeld ⊢
   have Q_ := Qs.mk (n := 8) [(0, 1, 26, 2), (0, 3, 28, 10), (2, 0, 25, 11), (2, 2, 27, 15)]
   iterate 4 (first | (obtain ⟨q_, Q_⟩ := Qs.p Q_; refine pureQ_ q_ (v := ?_) (a' := ?_) rfl rfl (any_of HT_.out (by kernel_rfl)) (fun _ _ _ h => h) (Or.inl ⟨by rfl, ?_⟩) ?_ ?_; rotate_left; (intro w'; go_simp; with_reducible rfl); rotate_left; (simp only [Act.put, List.setIfInBounds_toArray, List.set_cons_zero, List.set_cons_succ, i64_w, i32_w]; rfl)) | (obtain ⟨q_, Q_⟩ := Qs.t Q_; refine takeQ_ q_ (v := ?_) (a' := ?_) rfl rfl (take_ofW HT_.out HW_.out (by kernel_rfl)) (fun _ _ _ h => h) (Or.inl ⟨by rfl, ?_⟩) hHeld ?_ ?_; rotate_left; (rintro w' ⟨s0, s1, s2, s3⟩; go_simp; with_reducible rfl); rotate_left; (simp only [Act.put, List.setIfInBounds_toArray, List.set_cons_zero, List.set_cons_succ, i64_w, i32_w]; rfl)))
   clear Q_
   refine one_ (i := 4) (N := some 29) (dn_ 5 8) rfl rfl (one_of HT_.out (by kernel_rfl)) (by decide) (fun K hK => ?_)
   refine goes_ Try.func54 (by kernel_rfl) rfl #[.slice Ao20 t226.length co20, .int .i64 t235, .int .i64 1, .slice none 0 0] (by rfl) rfl rfl (by (try simp only [List.map_toArray, List.map_cons, List.map_nil]); first | done | rfl | (simp only [List.length_drop, List.length_take]; rfl)) ?_
   refine (board_alarms_with.calls k (fun k_ => ((k_ ≠ gb222 ∧ (k_ ≠ gb223 ∧ k_ ≠ gb224)) ∧ k_ ≠ gb234)) _ _ t226 t235 1 (fun k_ => False) _ _ ([] : List (S28)) t237 _ ?side1 ?side2 A8.out).mono ?_
   (case side1 => exact HO228.out)
   (case side2 => exact Kd.V_nil _ _ _ _ _)
   rintro e w30 ⟨v238, rfl, ho0, hb⟩
   refine ⟨_, rfl, ?_⟩
   replace HO228 := Aside0.mk (Kd.V_elder' (HO228.out) (Kd.R_base ho0) hb)
   replace HO233 := Aside0.mk (Kd.V_elder' (HO233.out) (Kd.R_base ho0) hb)
   have HO239 := Aside0.mk (Kd.R_lower (Kd.R_mono (ok' := fun k_ => True) ho0 (fun _ hk_ => trivial)) (below_size (by repeat (with_reducible first | exact HB.out | apply pw_below_drewN | apply below_drew1 | refine below_set ?_ (Aside0.out (by assumption))))))
   replace BK222 := bl_ BK222 hb
   replace BK223 := bl_ BK223 hb
   replace BK224 := bl_ BK224 hb
   replace BK234 := bl_ BK234 hb
   replace HB := Aside0.mk (below_step (by repeat (with_reducible first | exact HB.out | apply pw_below_drewN | apply below_drew1 | refine below_set ?_ (Aside0.out (by assumption)))) hb)
   (try clear hb)
   (try clear hb2)
   (try clear hk)
   (try clear hi)
   (try clear ho0)
   obtain ⟨Ao31, co31, eo31⟩ := Kd.R_slice HO239.out
   (first | subst eo31 | (injection eo31 with f1_ f2_ f3_; have f4_ := f1_.symm; have f5_ := f3_.symm; clear f1_ f2_ f3_; subst f4_; subst f5_))
   refine hK.out _ _ ⟨(blk_cell BK234.out 0).trans rfl, (blk_cell BK234.out 1).trans rfl, (blk_cell BK234.out 2).trans rfl, (blk_cell BK234.out 3).trans rfl⟩ (fun hHeld => ?_)
   clear hK K
   refine norm_ (a' := ?_) ?_ ?_
   rotate_left
   ·show Act.put _ (some 29) _ = _
    simp only [Act.put, List.setIfInBounds_toArray, List.set_cons_zero, List.set_cons_succ, i64_w, i32_w]
    rfl
   refine one_ (i := 5) (N := some 30) (dn_ 6 8) rfl rfl (one_of HT_.out (by kernel_rfl)) (by decide) (fun K hK => ?_)
   refine goes_ Try.func53 (by kernel_rfl) rfl #[.agg #[.slice Ao20 t226.length co20, .int .i64 t229, .int .i64 t230, .slice Ao25 t231.length co25], .slice Ao31 t237.length co31] (by rfl) rfl rfl (by (try simp only [List.map_toArray, List.map_cons, List.map_nil]); first | done | rfl | (simp only [List.length_drop, List.length_take]; rfl)) ?_
   with_reducible refine (board_sheet_now.calls _ _ t226 t229 t230 _ _ t231 (fun k_ => some k_ = (.slice Ao31 t237.length co31 : Value).ownBlock) (.slice Ao31 t237.length co31) t237 t240 t241 t242 w _ ?side1 ?side2 ?side3 ?side4 ?side5 ?side6 A9.out).mono ?_
   (case side1 => repeat (first | (with_reducible first | exact HB.out | apply below_alloc | apply pw_below_drewN | apply below_drew1 | refine below_set ?_ GE222.out | refine below_set ?_ GE223.out | refine below_set ?_ GE224.out | refine below_set ?_ GE234.out) | exact HB.out))
   (case side2 => exact Kd.C_kept_ownV (HO228.out) (fun k_ hk_ hs_ => (hk_.2) hs_))
   (case side3 => exact (Kd.V_reads' HO228.out).2.1)
   (case side4 => exact Kd.C_kept_ownV (HO233.out) (fun k_ hk_ hs_ => (hk_.2) hs_))
   (case side5 => exact (Kd.V_reads' HO233.out).2.1)
   (case side6 => exact Kd.R_tight rfl HO239.out)
   rintro e w32 ⟨v243, rfl, ho0, hb, hkp⟩
   refine ⟨_, rfl, ?_⟩
   replace BK222 := Aside0.mk (blk_kept BK222.out hkp (fun hs_ => (fun e_ => (Kd.R_ne HO239.out BK222.out (by decide)) e_) hs_))
   replace BK223 := Aside0.mk (blk_kept BK223.out hkp (fun hs_ => (fun e_ => (Kd.R_ne HO239.out BK223.out (by decide)) e_) hs_))
   replace BK224 := Aside0.mk (blk_kept BK224.out hkp (fun hs_ => (fun e_ => (Kd.R_ne HO239.out BK224.out (by decide)) e_) hs_))
   replace HO228 := Aside0.mk (Kd.V_mono (ok' := fun k_ => k_ ≠ gb222 ∧ k_ ≠ gb223 ∧ k_ ≠ gb224 ∧ k_ ≠ gb234 ∧ some k_ ≠ (v243 : Value).ownBlock) (Kd.V_keptB (HO228.out) hkp (fun k_ hk_ hs_ => (hk_.2) hs_)) (fun k_ hk_ => ⟨hk_.1.1.1.1, hk_.1.1.1.2.1, hk_.1.1.1.2.2, hk_.1.1.2, fun e_ => Or.elim (ho0.1 k_ e_.symm) (fun hs_ => hk_.2.1 hs_) (fun hn_ => Nat.not_le.2 hk_.2.2 hn_)⟩))
   replace HO233 := Aside0.mk (Kd.V_mono (ok' := fun k_ => k_ ≠ gb222 ∧ k_ ≠ gb223 ∧ k_ ≠ gb224 ∧ k_ ≠ gb234 ∧ some k_ ≠ (v243 : Value).ownBlock) (Kd.V_keptB (HO233.out) hkp (fun k_ hk_ hs_ => (hk_.2) hs_)) (fun k_ hk_ => ⟨hk_.1.1.1.1, hk_.1.1.1.2.1, hk_.1.1.1.2.2, hk_.1.1.2, fun e_ => Or.elim (ho0.1 k_ e_.symm) (fun hs_ => hk_.2.1 hs_) (fun hn_ => Nat.not_le.2 hk_.2.2 hn_)⟩))
   replace BK234 := Aside0.mk (blk_kept BK234.out hkp (fun hs_ => (fun e_ => (Kd.R_ne HO239.out BK234.out (by decide)) e_) hs_))
   have HO244 := Aside0.mk (Kd.R_mono (ok' := fun k_ => True) ho0 (fun k_ hk_ => trivial))
   replace HB := Aside0.mk (hb)
   clear HO239
   (try clear hb)
   (try clear hkp)
   (try clear ho0)
   obtain ⟨Ao35, co35, eo35⟩ := Kd.R_slice HO244.out
   (first | subst eo35 | (injection eo35 with f1_ f2_ f3_; have f4_ := f1_.symm; have f5_ := f3_.symm; clear f1_ f2_ f3_; subst f4_; subst f5_))
   refine hK.out _ _ ⟨(blk_cell BK234.out 0).trans rfl, (blk_cell BK234.out 1).trans rfl, (blk_cell BK234.out 2).trans rfl, (blk_cell BK234.out 3).trans rfl⟩ (fun hHeld => ?_)
   clear hK K
   refine norm_ (a' := ?_) ?_ ?_
   rotate_left
   ·show Act.put _ (some 30) _ = _
    simp only [Act.put, List.setIfInBounds_toArray, List.set_cons_zero, List.set_cons_succ, i64_w, i32_w]
    rfl
   refine one_ (i := 6) (N := none) (dn_ 7 8) rfl rfl (one_of HT_.out (by kernel_rfl)) (by decide) (fun K hK => ?_)
   have hs33 : w32.cell? ⟨gb224, 0, none⟩ = some (.int .i64 0) := (blk_cell BK224.out 0).trans rfl
   have hfs33 := blk_frozen BK224.out 0
   have hns33_0 := NB222_224.out
   have hns33_1 := NB223_224.out
   have hns33_3 := NB234_224.out
   have hms33_0 := NB224_222.out
   have hms33_1 := NB224_223.out
   have hms33_3 := NB224_234.out
   have hs34 : w32.cell? ⟨gb224, 1, none⟩ = some (.int .i64 0) := (blk_cell BK224.out 1).trans rfl
   have hfs34 := blk_frozen BK224.out 1
   have hns34_0 := NB222_224.out
   have hns34_1 := NB223_224.out
   have hns34_3 := NB234_224.out
   have hms34_0 := NB224_222.out
   have hms34_1 := NB224_223.out
   have hms34_3 := NB224_234.out
   have hs36 : w32.cell? ⟨gb224, 2, none⟩ = some (.slice none 0 0) := (blk_cell BK224.out 2).trans rfl
   have hfs36 := blk_frozen BK224.out 2
   have hns36_0 := NB222_224.out
   have hns36_1 := NB223_224.out
   have hns36_3 := NB234_224.out
   have hms36_0 := NB224_222.out
   have hms36_1 := NB224_223.out
   have hms36_3 := NB224_234.out
   refine skip_ (w1 := ?_) (by rfl) rfl ?_ ?_
   rotate_left
   ·go_simp
    rfl
   refine hK.out _ _ ⟨((cell_far (p := ⟨gb224, _, none⟩) NB234_224.out _).trans (((cell_far (p := ⟨gb224, _, none⟩) NB234_224.out _).trans (((cell_far (p := ⟨gb224, _, none⟩) NB234_224.out _).trans (hHeld.1)))))), ((cell_far (p := ⟨gb224, _, none⟩) NB234_224.out _).trans (((cell_far (p := ⟨gb224, _, none⟩) NB234_224.out _).trans (((cell_far (p := ⟨gb224, _, none⟩) NB234_224.out _).trans (hHeld.2.1)))))), ((cell_far (p := ⟨gb224, _, none⟩) NB234_224.out _).trans (((cell_far (p := ⟨gb224, _, none⟩) NB234_224.out _).trans (((cell_far (p := ⟨gb224, _, none⟩) NB234_224.out _).trans (hHeld.2.2.1)))))), ((cell_far (p := ⟨gb224, _, none⟩) NB234_224.out _).trans (((cell_far (p := ⟨gb224, _, none⟩) NB234_224.out _).trans (((cell_far (p := ⟨gb224, _, none⟩) NB234_224.out _).trans (hHeld.2.2.2))))))⟩ (fun hHeld => ?_)
   clear hK K
   refine pure_ (i := 7) (N := some 5) (v := ?_) (a' := ?_) #[true, true, true, true, true, true, true, true] rfl rfl (any_of HT_.out (by kernel_rfl)) (fun _ _ _ h => h) (Or.inl ⟨by rfl, ?_⟩) ?_ ?_
   rotate_left
   ·intro w'
    go_simp
    with_reducible rfl
   rotate_left; (simp only [Act.put, List.setIfInBounds_toArray, List.set_cons_zero, List.set_cons_succ, i64_w, i32_w]; rfl)
   refine done_ (done_of HT_.out (by kernel_rfl)) ?_
   try go_wp2
   refine bodyPost_ret (results_ct rfl _ _ gb224 24 #[.int .i64 t240, .int .i64 t241, .slice Ao35 t242.length co35] (0, 0) _ rfl (by refine blk_put (cs := #[.int .i64 t240, .int .i64 t241, .slice none 0 0]) ?_ 2 _ rfl; refine blk_put (cs := #[.int .i64 t240, .int .i64 0, .slice none 0 0]) ?_ 1 _ rfl; refine blk_put (cs := #[.int .i64 0, .int .i64 0, .slice none 0 0]) ?_ 0 _ rfl; exact BK224.out) Try.underlying24 rfl (by kernel_rfl)) rfl ?_
   exact ⟨_, by first | rfl | (simp [errW_none, errW_some] <;> rfl) | (simp [*, errW_none, errW_some] <;> rfl), by (with_reducible repeat (first | apply Kd.R_alloc | apply Kd.R_drewN | apply Kd.R_drew)); exact Kd.R_mono (rf3 (Kd.R_types HO244.out BK224.out (by decide)) (fun _ hk => hk.2) (.int .i64 t240) (.int .i64 t241) (.slice Ao35 t242.length co35)) (fun _ hk => trivial), by repeat (with_reducible first | exact HB.out | apply pw_below_drewN | apply below_drew1 | refine below_set ?_ (Aside0.out (by assumption)))⟩
  ·replace c7 := Bool.eq_false_iff.mpr c7
   subst c7
   rw [if_neg (show ¬ (false = true) by decide)] at H; try dsimp only at H
   simp only [Option.some.injEq, Prod.mk.injEq] at H
   obtain ⟨rfl, rfl, rfl, rfl⟩ := H
   go_enter Try.func17, Try.ntmps17
   go_wp2_with (first | ((with_reducible refine gate_dst (N := 2) rfl ?_); refine box_event ?hg (N := 2) ?hd (cs := #[.int .i64 a0_0, .int .i64 a0_1, .slice A0_2 l0_2.length c0_2]) (t := 24) ?hr ?_; (case hd => rfl); (case hg => rfl); (case hr => first | (go_simp; done) | (go_simp; rfl)); intro gb222 hg w37 hbox hb; have BK222 := Aside0.mk (hbox); have GW222 := Aside0.mk ((by rw [hg]; exact (below_size HB.out) : w.heap.size ≤ gb222)); have GE222 := Aside0.mk ((by rw [hg]; exact (below_size HB.out) : w.heap.size ≤ gb222)); replace HB := Aside0.mk (below_step HB.out hb); clear hb hbox hg) | ((with_reducible refine gate_dst (N := 3) rfl ?_); refine box_event ?hg (N := 3) ?hd (cs := #[.int .i64 a1_0, .int .i64 a1_1]) (t := 26) ?hr ?_; (case hd => rfl); (case hg => rfl); (case hr => first | (go_simp; done) | (go_simp; rfl)); intro gb223 hg w38 hbox hb; have BK223 := Aside0.mk (hbox); have GW223 := Aside0.mk ((by rw [hg]; exact (below_size (by repeat (with_reducible first | exact HB.out | apply pw_below_drewN | apply below_drew1 | refine below_set ?_ GE222.out))) : w.heap.size ≤ gb223)); have GE223 := Aside0.mk ((by rw [hg]; exact (below_size (by repeat (with_reducible first | exact HB.out | apply pw_below_drewN | apply below_drew1 | refine below_set ?_ GE222.out))) : w.heap.size ≤ gb223)); replace HB := Aside0.mk (below_step (by repeat (with_reducible first | exact HB.out | apply pw_below_drewN | apply below_drew1 | refine below_set ?_ GE222.out)) hb); have NB222_223 := Aside0.mk ((by rw [hg]; exact Nat.ne_of_lt (blk_lt BK222.out) : gb222 ≠ gb223)); have NB223_222 := Aside0.mk ((by rw [hg]; exact Nat.ne_of_gt (blk_lt BK222.out) : gb223 ≠ gb222)); replace BK222 := bl_ BK222 hb; clear hb hbox hg) | ((with_reducible refine gate_dst (N := 4) rfl ?_); refine box_event ?hg (N := 4) ?hd (cs := #[.int .i64 0, .int .i64 0, .slice none 0 0]) (t := 24) ?hr ?_; (case hd => rfl); (case hg => rfl); (case hr => first | (go_simp; done) | (go_simp; rfl)); intro gb224 hg w39 hbox hb; have BK224 := Aside0.mk (hbox); have GW224 := Aside0.mk ((by rw [hg]; exact (below_size (by repeat (with_reducible first | exact HB.out | apply pw_below_drewN | apply below_drew1 | refine below_set ?_ (Aside0.out (by assumption))))) : w.heap.size ≤ gb224)); have GE224 := Aside0.mk ((by rw [hg]; exact (below_size (by repeat (with_reducible first | exact HB.out | apply pw_below_drewN | apply below_drew1 | refine below_set ?_ (Aside0.out (by assumption))))) : w.heap.size ≤ gb224)); replace HB := Aside0.mk (below_step (by repeat (with_reducible first | exact HB.out | apply pw_below_drewN | apply below_drew1 | refine below_set ?_ (Aside0.out (by assumption)))) hb); have NB222_224 := Aside0.mk ((by rw [hg]; exact Nat.ne_of_lt (blk_lt BK222.out) : gb222 ≠ gb224)); have NB224_222 := Aside0.mk ((by rw [hg]; exact Nat.ne_of_gt (blk_lt BK222.out) : gb224 ≠ gb222)); replace BK222 := bl_ BK222 hb; have NB223_224 := Aside0.mk ((by rw [hg]; exact Nat.ne_of_lt (blk_lt BK223.out) : gb223 ≠ gb224)); have NB224_223 := Aside0.mk ((by rw [hg]; exact Nat.ne_of_gt (blk_lt BK223.out) : gb224 ≠ gb223)); replace BK223 := bl_ BK223 hb; clear hb hbox hg; have hnb40 := NB222_223.out; have hnc40 := NB223_222.out; have hnb41 := NB222_224.out; have hnc41 := NB224_222.out; have hcz42_0 : w39.cell? ⟨gb222, 0, none⟩ = some (.int .i64 a0_0) := (blk_cell BK222.out 0).trans rfl; have hcz42_1 : w39.cell? ⟨gb222, 1, none⟩ = some (.int .i64 a0_1) := (blk_cell BK222.out 1).trans rfl; have hcz42_2 : w39.cell? ⟨gb222, 2, none⟩ = some (.slice A0_2 l0_2.length c0_2) := (blk_cell BK222.out 2).trans rfl; have hfz42_0 := blk_frozen BK222.out 0; have hfz42_1 := blk_frozen BK222.out 1; have hfz42_2 := blk_frozen BK222.out 2) | ((with_reducible refine gate_callee (f := 32) rfl ?_); refine goesL_ (some 10) rfl rfl Try.func32 (by kernel_rfl) rfl #[.agg #[.int .i64 a0_0, .int .i64 a0_1, .slice A0_2 l0_2.length c0_2]] rfl (by (try simp only [List.map_toArray, List.map_cons, List.map_nil]); first | done | rfl | (simp only [List.length_drop, List.length_take]; rfl)) ?_; (with_reducible refine (board_Is.calls k a0_0 a0_1 _ _ l0_2 true _ ?side1 ?side2 A3.out).mono ?_); (case side1 => exact (Kd.C_below HR0_2.out HB.out)); (case side2 => exact HC0_2.out); rintro e w43 ⟨rfl, hb⟩; refine ⟨_, rfl, ?_⟩; replace BK222 := bl_ BK222 hb; replace BK223 := bl_ BK223 hb; replace BK224 := bl_ BK224 hb; replace HB := Aside0.mk (below_step (by repeat (with_reducible first | exact HB.out | apply pw_below_drewN | apply below_drew1 | refine below_set ?_ (Aside0.out (by assumption)))) hb); (try clear hb); (try clear hb2); (try clear hk); (try clear hi); have hcz44_0 : w43.cell? ⟨gb222, 0, none⟩ = some (.int .i64 a0_0) := (blk_cell BK222.out 0).trans rfl; have hcz44_1 : w43.cell? ⟨gb222, 1, none⟩ = some (.int .i64 a0_1) := (blk_cell BK222.out 1).trans rfl; have hcz44_2 : w43.cell? ⟨gb222, 2, none⟩ = some (.slice A0_2 l0_2.length c0_2) := (blk_cell BK222.out 2).trans rfl; have hfz44_0 := blk_frozen BK222.out 0; have hfz44_1 := blk_frozen BK222.out 1; have hfz44_2 := blk_frozen BK222.out 2) | ((with_reducible refine gate_callee (f := 51) rfl ?_); refine goesL_ (some 14) rfl rfl Try.func51 (by kernel_rfl) rfl #[.agg #[.int .i64 a0_0, .int .i64 a0_1, .slice A0_2 l0_2.length c0_2]] rfl (by (try simp only [List.map_toArray, List.map_cons, List.map_nil]); first | done | rfl | (simp only [List.length_drop, List.length_take]; rfl)) ?_; (with_reducible refine (board_open.calls a0_0 a0_1 (fun k_ => k_ < w.heap.size) _ _ l0_2 t226 t229 t230 t231 _ ?side1 A5.out).mono ?_); (case side1 => exact Kd.V_mk HC0_2.out (Kd.F_below (Kd.C_F k28_heap HR0_2.out) (by repeat (with_reducible first | exact HB.out | apply pw_below_drewN | apply below_drew1 | refine below_set ?_ (Aside0.out (by assumption)))))); rintro e w45 ⟨v227, v232, rfl, ho0, ho1, hb⟩; refine ⟨_, rfl, ?_⟩; have HO228 := Aside0.mk (Kd.V_lower (Kd.V_mono (ok' := fun k_ => k_ ≠ gb222 ∧ k_ ≠ gb223 ∧ k_ ≠ gb224) ho0 (fun k_ hk_ => ⟨Or.elim hk_ (fun hs_ => fun e_ => Nat.not_le.2 hs_ (by rw [e_]; exact GW222.out)) (fun hn_ => (Kd.freshB (g := gb222) (o := .cells #[.int .i64 a0_0, .int .i64 a0_1, .slice A0_2 l0_2.length c0_2] 24 (0, 0)) BK222.out k_ hn_)), Or.elim hk_ (fun hs_ => fun e_ => Nat.not_le.2 hs_ (by rw [e_]; exact GW223.out)) (fun hn_ => (Kd.freshB (g := gb223) (o := .cells #[.int .i64 a1_0, .int .i64 a1_1] 26 (0, 0)) BK223.out k_ hn_)), Or.elim hk_ (fun hs_ => fun e_ => Nat.not_le.2 hs_ (by rw [e_]; exact GW224.out)) (fun hn_ => (Kd.freshB (g := gb224) (o := .cells #[.int .i64 0, .int .i64 0, .slice none 0 0] 24 (0, 0)) BK224.out k_ hn_))⟩)) (below_size (by repeat (with_reducible first | exact HB.out | apply pw_below_drewN | apply below_drew1 | refine below_set ?_ (Aside0.out (by assumption)))))); have HO233 := Aside0.mk (Kd.V_lower (Kd.V_mono (ok' := fun k_ => k_ ≠ gb222 ∧ k_ ≠ gb223 ∧ k_ ≠ gb224) ho1 (fun k_ hk_ => ⟨Or.elim hk_ (fun hs_ => fun e_ => Nat.not_le.2 hs_ (by rw [e_]; exact GW222.out)) (fun hn_ => (Kd.freshB (g := gb222) (o := .cells #[.int .i64 a0_0, .int .i64 a0_1, .slice A0_2 l0_2.length c0_2] 24 (0, 0)) BK222.out k_ hn_)), Or.elim hk_ (fun hs_ => fun e_ => Nat.not_le.2 hs_ (by rw [e_]; exact GW223.out)) (fun hn_ => (Kd.freshB (g := gb223) (o := .cells #[.int .i64 a1_0, .int .i64 a1_1] 26 (0, 0)) BK223.out k_ hn_)), Or.elim hk_ (fun hs_ => fun e_ => Nat.not_le.2 hs_ (by rw [e_]; exact GW224.out)) (fun hn_ => (Kd.freshB (g := gb224) (o := .cells #[.int .i64 0, .int .i64 0, .slice none 0 0] 24 (0, 0)) BK224.out k_ hn_))⟩)) (below_size (by repeat (with_reducible first | exact HB.out | apply pw_below_drewN | apply below_drew1 | refine below_set ?_ (Aside0.out (by assumption)))))); replace BK222 := bl_ BK222 hb; replace BK223 := bl_ BK223 hb; replace BK224 := bl_ BK224 hb; replace HB := Aside0.mk (below_step (by repeat (with_reducible first | exact HB.out | apply pw_below_drewN | apply below_drew1 | refine below_set ?_ (Aside0.out (by assumption)))) hb); (try clear hb); (try clear hb2); (try clear hk); (try clear hi); (try clear ho0); (try clear ho1)) | ((with_reducible refine gate_dst (N := 6) rfl ?_); refine box_event ?hg (N := 6) ?hd (cs := #[.slice none 0 0, .int .i64 0, .int .i64 0, .slice none 0 0]) (t := 72) ?hr ?_; (case hd => rfl); (case hg => rfl); (case hr => first | (go_simp; done) | (go_simp; rfl)); intro gb234 hg w46 hbox hb; replace HO228 := Aside0.mk (Kd.V_below (Kd.V_elderB (HO228.out) gb234 (Nat.le_of_eq hg.symm)) hb); replace HO233 := Aside0.mk (Kd.V_below (Kd.V_elderB (HO233.out) gb234 (Nat.le_of_eq hg.symm)) hb); have BK234 := Aside0.mk (hbox); have GW234 := Aside0.mk ((by rw [hg]; exact (below_size (by repeat (with_reducible first | exact HB.out | apply pw_below_drewN | apply below_drew1 | refine below_set ?_ (Aside0.out (by assumption))))) : w.heap.size ≤ gb234)); have GE234 := Aside0.mk ((by rw [hg]; exact (below_size (by repeat (with_reducible first | exact HB.out | apply pw_below_drewN | apply below_drew1 | refine below_set ?_ (Aside0.out (by assumption))))) : w.heap.size ≤ gb234)); replace HB := Aside0.mk (below_step (by repeat (with_reducible first | exact HB.out | apply pw_below_drewN | apply below_drew1 | refine below_set ?_ (Aside0.out (by assumption)))) hb); have NB222_234 := Aside0.mk ((by rw [hg]; exact Nat.ne_of_lt (blk_lt BK222.out) : gb222 ≠ gb234)); have NB234_222 := Aside0.mk ((by rw [hg]; exact Nat.ne_of_gt (blk_lt BK222.out) : gb234 ≠ gb222)); replace BK222 := bl_ BK222 hb; have NB223_234 := Aside0.mk ((by rw [hg]; exact Nat.ne_of_lt (blk_lt BK223.out) : gb223 ≠ gb234)); have NB234_223 := Aside0.mk ((by rw [hg]; exact Nat.ne_of_gt (blk_lt BK223.out) : gb234 ≠ gb223)); replace BK223 := bl_ BK223 hb; have NB224_234 := Aside0.mk ((by rw [hg]; exact Nat.ne_of_lt (blk_lt BK224.out) : gb224 ≠ gb234)); have NB234_224 := Aside0.mk ((by rw [hg]; exact Nat.ne_of_gt (blk_lt BK224.out) : gb234 ≠ gb224)); replace BK224 := bl_ BK224 hb; clear hb hbox hg; obtain ⟨Ao47, co47, eo47⟩ := Kd.V_slice HO228.out; subst eo47; have hnb48 := NB234_222.out; have hnc48 := NB222_234.out; have hnb49 := NB234_223.out; have hnc49 := NB223_234.out; have hnb50 := NB234_224.out; have hnc50 := NB224_234.out; have hcz51_0 : w46.cell? ⟨gb234, 0, none⟩ = some (.slice none 0 0) := (blk_cell BK234.out 0).trans rfl; have hcz51_1 : w46.cell? ⟨gb234, 1, none⟩ = some (.int .i64 0) := (blk_cell BK234.out 1).trans rfl; have hcz51_2 : w46.cell? ⟨gb234, 2, none⟩ = some (.int .i64 0) := (blk_cell BK234.out 2).trans rfl; have hcz51_3 : w46.cell? ⟨gb234, 3, none⟩ = some (.slice none 0 0) := (blk_cell BK234.out 3).trans rfl; have hfz51_0 := blk_frozen BK234.out 0; have hfz51_1 := blk_frozen BK234.out 1; have hfz51_2 := blk_frozen BK234.out 2; have hfz51_3 := blk_frozen BK234.out 3; obtain ⟨Ao52, co52, eo52⟩ := Kd.V_slice HO233.out; subst eo52; have hnb53 := NB223_224.out; have hnc53 := NB224_223.out; have hcz54_0 : w46.cell? ⟨gb223, 0, none⟩ = some (.int .i64 a1_0) := (blk_cell BK223.out 0).trans rfl; have hcz54_1 : w46.cell? ⟨gb223, 1, none⟩ = some (.int .i64 a1_1) := (blk_cell BK223.out 1).trans rfl; have hfz54_0 := blk_frozen BK223.out 0; have hfz54_1 := blk_frozen BK223.out 1) | ((with_reducible refine gate_callee (f := 52) rfl ?_); refine goesL_ (some 19) rfl rfl Try.func52 (by kernel_rfl) rfl #[.slice Ao47 t226.length co47, .agg #[.int .i64 a1_0, .int .i64 a1_1]] rfl (by (try simp only [List.map_toArray, List.map_cons, List.map_nil]); first | done | rfl | (simp only [List.length_drop, List.length_take]; rfl)) ?_; (with_reducible refine (board_alarms_find.calls k _ _ t226 a1_0 a1_1 t235 false _ ?side1 ?side2 A6.out).mono ?_); (case side1 => refine (Kd.V_reads' (e := 28) (base := w.heap.size) (ok := fun k_ => ((k_ ≠ gb222 ∧ (k_ ≠ gb223 ∧ k_ ≠ gb224)) ∧ k_ ≠ gb234)) (n := t226.length) (c := co47) ?_).2.2; exact (by (with_reducible repeat (first | apply Kd.V_alloc | apply Kd.V_drewN | apply Kd.V_drew)); exact (Kd.V_mono (Kd.V_far (p := ⟨gb234, 3, none⟩) (Kd.V_far (p := ⟨gb234, 2, none⟩) (Kd.V_far (p := ⟨gb234, 1, none⟩) (Kd.V_far (p := ⟨gb234, 0, none⟩) (Kd.V_mono HO228.out (fun k_ hk => (⟨hk, hk.2⟩ : _ ∧ k_ ≠ gb234))) (fun _ hk => hk.2) (.slice Ao47 t226.length co47)) (fun _ hk => hk.2) (.int .i64 t229)) (fun _ hk => hk.2) (.int .i64 t230)) (fun _ hk => hk.2) (.slice Ao52 t231.length co52)) (fun _ h_ => h_.1)))); (case side2 => exact (Kd.V_reads' HO228.out).2.1); rintro e w55 ⟨rfl, hb⟩; refine ⟨_, rfl, ?_⟩; replace HO228 := Aside0.mk (Kd.V_below (by (with_reducible repeat (first | apply Kd.V_alloc | apply Kd.V_drewN | apply Kd.V_drew)); exact (Kd.V_mono (Kd.V_far (p := ⟨gb234, 3, none⟩) (Kd.V_far (p := ⟨gb234, 2, none⟩) (Kd.V_far (p := ⟨gb234, 1, none⟩) (Kd.V_far (p := ⟨gb234, 0, none⟩) (Kd.V_mono HO228.out (fun k_ hk => (⟨hk, hk.2⟩ : _ ∧ k_ ≠ gb234))) (fun _ hk => hk.2) (.slice Ao47 t226.length co47)) (fun _ hk => hk.2) (.int .i64 t229)) (fun _ hk => hk.2) (.int .i64 t230)) (fun _ hk => hk.2) (.slice Ao52 t231.length co52)) (fun _ h_ => h_.1))) hb); replace HO233 := Aside0.mk (Kd.V_below (by (with_reducible repeat (first | apply Kd.V_alloc | apply Kd.V_drewN | apply Kd.V_drew)); exact (Kd.V_mono (Kd.V_far (p := ⟨gb234, 3, none⟩) (Kd.V_far (p := ⟨gb234, 2, none⟩) (Kd.V_far (p := ⟨gb234, 1, none⟩) (Kd.V_far (p := ⟨gb234, 0, none⟩) (Kd.V_mono HO233.out (fun k_ hk => (⟨hk, hk.2⟩ : _ ∧ k_ ≠ gb234))) (fun _ hk => hk.2) (.slice Ao47 t226.length co47)) (fun _ hk => hk.2) (.int .i64 t229)) (fun _ hk => hk.2) (.int .i64 t230)) (fun _ hk => hk.2) (.slice Ao52 t231.length co52)) (fun _ h_ => h_.1))) hb); replace BK222 := Aside0.mk (blk_below (g := gb222) (o := .cells #[.int .i64 a0_0, .int .i64 a0_1, .slice A0_2 l0_2.length c0_2] 24 (0, 0)) (by refine blk_far ?_ NB222_234.out _; refine blk_far ?_ NB222_234.out _; refine blk_far ?_ NB222_234.out _; refine blk_far ?_ NB222_234.out _; exact BK222.out) hb); replace BK223 := Aside0.mk (blk_below (g := gb223) (o := .cells #[.int .i64 a1_0, .int .i64 a1_1] 26 (0, 0)) (by refine blk_far ?_ NB223_234.out _; refine blk_far ?_ NB223_234.out _; refine blk_far ?_ NB223_234.out _; refine blk_far ?_ NB223_234.out _; exact BK223.out) hb); replace BK224 := Aside0.mk (blk_below (g := gb224) (o := .cells #[.int .i64 0, .int .i64 0, .slice none 0 0] 24 (0, 0)) (by refine blk_far ?_ NB224_234.out _; refine blk_far ?_ NB224_234.out _; refine blk_far ?_ NB224_234.out _; refine blk_far ?_ NB224_234.out _; exact BK224.out) hb); replace BK234 := Aside0.mk (blk_below (g := gb234) (o := .cells #[.slice Ao47 t226.length co47, .int .i64 t229, .int .i64 t230, .slice Ao52 t231.length co52] 72 (0, 0)) (by refine blk_put (cs := #[.slice Ao47 t226.length co47, .int .i64 t229, .int .i64 t230, .slice none 0 0]) ?_ 3 _ rfl; refine blk_put (cs := #[.slice Ao47 t226.length co47, .int .i64 t229, .int .i64 0, .slice none 0 0]) ?_ 2 _ rfl; refine blk_put (cs := #[.slice Ao47 t226.length co47, .int .i64 0, .int .i64 0, .slice none 0 0]) ?_ 1 _ rfl; refine blk_put (cs := #[.slice none 0 0, .int .i64 0, .int .i64 0, .slice none 0 0]) ?_ 0 _ rfl; exact BK234.out) hb); replace HB := Aside0.mk (below_step (by repeat (with_reducible first | exact HB.out | apply pw_below_drewN | apply below_drew1 | refine below_set ?_ (Aside0.out (by assumption)))) hb); (try clear hb); (try clear hb2); (try clear hk); (try clear hi); have hcz56_0 : w55.cell? ⟨gb224, 0, none⟩ = some (.int .i64 0) := (blk_cell BK224.out 0).trans rfl; have hcz56_1 : w55.cell? ⟨gb224, 1, none⟩ = some (.int .i64 0) := (blk_cell BK224.out 1).trans rfl; have hcz56_2 : w55.cell? ⟨gb224, 2, none⟩ = some (.slice none 0 0) := (blk_cell BK224.out 2).trans rfl; have hfz56_0 := blk_frozen BK224.out 0; have hfz56_1 := blk_frozen BK224.out 1; have hfz56_2 := blk_frozen BK224.out 2))
   refine bodyPost_ret (results_ct rfl _ _ gb224 24 #[.int .i64 0, .int .i64 0, .slice none 0 0] (0, 0) _ rfl (by refine blk_put (cs := #[.int .i64 0, .int .i64 0, .slice none 0 0]) ?_ 2 _ rfl; refine blk_put (cs := #[.int .i64 0, .int .i64 0, .slice none 0 0]) ?_ 1 _ rfl; refine blk_put (cs := #[.int .i64 0, .int .i64 0, .slice none 0 0]) ?_ 0 _ rfl; exact BK224.out) Try.underlying24 rfl (by kernel_rfl)) rfl ?_
   exact ⟨_, by first | rfl | (simp [errW_none, errW_some] <;> rfl) | (simp [*, errW_none, errW_some] <;> rfl), by first | exact Kd.R_nil _ _ _ _ _ | exact Kd.N_nil _ _ _ _ _ | exact Kd.V_nil _ _ _ _ _ | exact Kd.Q_nil _ _ _ _ _ | exact Kd.S_nil _ _ _ _ _, by repeat (with_reducible first | exact HB.out | apply pw_below_drewN | apply below_drew1 | refine below_set ?_ (Aside0.out (by assumption)))⟩
 ·replace c4 := Bool.eq_false_iff.mpr c4
  subst c4
  rw [if_neg (show ¬ (false = true) by decide)] at H; try dsimp only at H
  simp only [Option.some.injEq, Prod.mk.injEq] at H
  obtain ⟨rfl, rfl, rfl, rfl⟩ := H
  go_enter Try.func17, Try.ntmps17
  go_wp2_with (first | ((with_reducible refine gate_dst (N := 2) rfl ?_); refine box_event ?hg (N := 2) ?hd (cs := #[.int .i64 a0_0, .int .i64 a0_1, .slice A0_2 l0_2.length c0_2]) (t := 24) ?hr ?_; (case hd => rfl); (case hg => rfl); (case hr => first | (go_simp; done) | (go_simp; rfl)); intro gb222 hg w57 hbox hb; have BK222 := Aside0.mk (hbox); have GW222 := Aside0.mk ((by rw [hg]; exact (below_size HB.out) : w.heap.size ≤ gb222)); have GE222 := Aside0.mk ((by rw [hg]; exact (below_size HB.out) : w.heap.size ≤ gb222)); replace HB := Aside0.mk (below_step HB.out hb); clear hb hbox hg) | ((with_reducible refine gate_dst (N := 3) rfl ?_); refine box_event ?hg (N := 3) ?hd (cs := #[.int .i64 a1_0, .int .i64 a1_1]) (t := 26) ?hr ?_; (case hd => rfl); (case hg => rfl); (case hr => first | (go_simp; done) | (go_simp; rfl)); intro gb223 hg w58 hbox hb; have BK223 := Aside0.mk (hbox); have GW223 := Aside0.mk ((by rw [hg]; exact (below_size (by repeat (with_reducible first | exact HB.out | apply pw_below_drewN | apply below_drew1 | refine below_set ?_ GE222.out))) : w.heap.size ≤ gb223)); have GE223 := Aside0.mk ((by rw [hg]; exact (below_size (by repeat (with_reducible first | exact HB.out | apply pw_below_drewN | apply below_drew1 | refine below_set ?_ GE222.out))) : w.heap.size ≤ gb223)); replace HB := Aside0.mk (below_step (by repeat (with_reducible first | exact HB.out | apply pw_below_drewN | apply below_drew1 | refine below_set ?_ GE222.out)) hb); have NB222_223 := Aside0.mk ((by rw [hg]; exact Nat.ne_of_lt (blk_lt BK222.out) : gb222 ≠ gb223)); have NB223_222 := Aside0.mk ((by rw [hg]; exact Nat.ne_of_gt (blk_lt BK222.out) : gb223 ≠ gb222)); replace BK222 := bl_ BK222 hb; clear hb hbox hg) | ((with_reducible refine gate_dst (N := 4) rfl ?_); refine box_event ?hg (N := 4) ?hd (cs := #[.int .i64 0, .int .i64 0, .slice none 0 0]) (t := 24) ?hr ?_; (case hd => rfl); (case hg => rfl); (case hr => first | (go_simp; done) | (go_simp; rfl)); intro gb224 hg w59 hbox hb; have BK224 := Aside0.mk (hbox); have GW224 := Aside0.mk ((by rw [hg]; exact (below_size (by repeat (with_reducible first | exact HB.out | apply pw_below_drewN | apply below_drew1 | refine below_set ?_ (Aside0.out (by assumption))))) : w.heap.size ≤ gb224)); have GE224 := Aside0.mk ((by rw [hg]; exact (below_size (by repeat (with_reducible first | exact HB.out | apply pw_below_drewN | apply below_drew1 | refine below_set ?_ (Aside0.out (by assumption))))) : w.heap.size ≤ gb224)); replace HB := Aside0.mk (below_step (by repeat (with_reducible first | exact HB.out | apply pw_below_drewN | apply below_drew1 | refine below_set ?_ (Aside0.out (by assumption)))) hb); have NB222_224 := Aside0.mk ((by rw [hg]; exact Nat.ne_of_lt (blk_lt BK222.out) : gb222 ≠ gb224)); have NB224_222 := Aside0.mk ((by rw [hg]; exact Nat.ne_of_gt (blk_lt BK222.out) : gb224 ≠ gb222)); replace BK222 := bl_ BK222 hb; have NB223_224 := Aside0.mk ((by rw [hg]; exact Nat.ne_of_lt (blk_lt BK223.out) : gb223 ≠ gb224)); have NB224_223 := Aside0.mk ((by rw [hg]; exact Nat.ne_of_gt (blk_lt BK223.out) : gb224 ≠ gb223)); replace BK223 := bl_ BK223 hb; clear hb hbox hg; have hnb60 := NB222_223.out; have hnc60 := NB223_222.out; have hnb61 := NB222_224.out; have hnc61 := NB224_222.out; have hcz62_0 : w59.cell? ⟨gb222, 0, none⟩ = some (.int .i64 a0_0) := (blk_cell BK222.out 0).trans rfl; have hcz62_1 : w59.cell? ⟨gb222, 1, none⟩ = some (.int .i64 a0_1) := (blk_cell BK222.out 1).trans rfl; have hcz62_2 : w59.cell? ⟨gb222, 2, none⟩ = some (.slice A0_2 l0_2.length c0_2) := (blk_cell BK222.out 2).trans rfl; have hfz62_0 := blk_frozen BK222.out 0; have hfz62_1 := blk_frozen BK222.out 1; have hfz62_2 := blk_frozen BK222.out 2) | ((with_reducible refine gate_callee (f := 32) rfl ?_); refine goesL_ (some 10) rfl rfl Try.func32 (by kernel_rfl) rfl #[.agg #[.int .i64 a0_0, .int .i64 a0_1, .slice A0_2 l0_2.length c0_2]] rfl (by (try simp only [List.map_toArray, List.map_cons, List.map_nil]); first | done | rfl | (simp only [List.length_drop, List.length_take]; rfl)) ?_; (with_reducible refine (board_Is.calls k a0_0 a0_1 _ _ l0_2 false _ ?side1 ?side2 A3.out).mono ?_); (case side1 => exact (Kd.C_below HR0_2.out HB.out)); (case side2 => exact HC0_2.out); rintro e w63 ⟨rfl, hb⟩; refine ⟨_, rfl, ?_⟩; replace BK222 := bl_ BK222 hb; replace BK223 := bl_ BK223 hb; replace BK224 := bl_ BK224 hb; replace HB := Aside0.mk (below_step (by repeat (with_reducible first | exact HB.out | apply pw_below_drewN | apply below_drew1 | refine below_set ?_ (Aside0.out (by assumption)))) hb); (try clear hb); (try clear hb2); (try clear hk); (try clear hi); have hnb64 := NB224_223.out; have hnc64 := NB223_224.out; have hcz65_0 : w63.cell? ⟨gb224, 0, none⟩ = some (.int .i64 0) := (blk_cell BK224.out 0).trans rfl; have hcz65_1 : w63.cell? ⟨gb224, 1, none⟩ = some (.int .i64 0) := (blk_cell BK224.out 1).trans rfl; have hcz65_2 : w63.cell? ⟨gb224, 2, none⟩ = some (.slice none 0 0) := (blk_cell BK224.out 2).trans rfl; have hfz65_0 := blk_frozen BK224.out 0; have hfz65_1 := blk_frozen BK224.out 1; have hfz65_2 := blk_frozen BK224.out 2))
  refine bodyPost_ret (results_ct rfl _ _ gb224 24 #[.int .i64 0, .int .i64 0, .slice none 0 0] (0, 0) _ rfl (by refine blk_put (cs := #[.int .i64 0, .int .i64 0, .slice none 0 0]) ?_ 2 _ rfl; refine blk_put (cs := #[.int .i64 0, .int .i64 0, .slice none 0 0]) ?_ 1 _ rfl; refine blk_put (cs := #[.int .i64 0, .int .i64 0, .slice none 0 0]) ?_ 0 _ rfl; exact BK224.out) Try.underlying24 rfl (by kernel_rfl)) rfl ?_
  exact ⟨_, by first | rfl | (simp [errW_none, errW_some] <;> rfl) | (simp [*, errW_none, errW_some] <;> rfl), by first | exact Kd.R_nil _ _ _ _ _ | exact Kd.N_nil _ _ _ _ _ | exact Kd.V_nil _ _ _ _ _ | exact Kd.Q_nil _ _ _ _ _ | exact Kd.S_nil _ _ _ _ _, by repeat (with_reducible first | exact HB.out | apply pw_below_drewN | apply below_drew1 | refine below_set ?_ (Aside0.out (by assumption)))⟩

/-! ### watchmanref08_Drop: function 18 -/
attribute [local go_sem high] eqA26
def watchmanref08_Drop.p (a1_0 a1_1 : Int) (x : S28) : Bool := !(x.f0.f0 == a1_0) || !(x.f0.f1 == a1_1)
def watchmanref08_Drop.f (k : Nat) (a0_0 a0_1 : Int) (l0_2 : List S28) (a1_0 a1_1 : Int) : Option (Int × Int × List S28 × Int) := (watchmanref08_Is.f k a0_0 a0_1 l0_2).bind fun t => if t = true then ((watchmanref08_Get.f k a0_0 a0_1 l0_2 a1_0 a1_1).bind fun g => if g.2.2.2.2.2.2 = true then (if l0_2.length < 2932031007402 then some (a0_0, a0_1, l0_2.filter (watchmanref08_Drop.p a1_0 a1_1), 0) else none) else some (0, 0, [], 80)) else some (0, 0, [], 1)
set_option maxHeartbeats 8000000 in
set_option maxRecDepth 100000 in
theorem watchmanref08_Drop.e1 (k : Nat) (a0_0 a0_1 : Int) (A0_2 : Option Addr) (c0_2 : Nat) (l0_2 : List S28) (a1_0 a1_1 : Int) (w : World) (hr0_2 : Kd.C k28 w A0_2 l0_2.length l0_2) (hc0_2 : l0_2.length ≤ c0_2) (E0 : watchmanref08_Is.f k a0_0 a0_1 l0_2 = some false) :
    Calls Try.prog 18 #[.agg #[.int .i64 a0_0, .int .i64 a0_1, .slice A0_2 l0_2.length c0_2], .agg #[.int .i64 a1_0, .int .i64 a1_1]] w fun e w' => ∃ v2_ : Value, e = .returned (.tuple #[.agg #[.int .i64 0, .int .i64 0, v2_], .int .i64 1]) ∧ Kd.R k28 28 w' w.heap.size (fun _ => True) v2_ ([] : List S28) ∧ Below w.heap.size w w' := by
  have hu0 := Try.underlying24
  have hu1 := Try.underlying28
  have hu2 := Try.underlying26
  have HR0 := Aside0.mk hr0_2
  have HC0 := Aside0.mk hc0_2
  clear hr0_2 hc0_2
  replace E0 := Aside0.mk E0
  have HT := Aside0.mk (T.Tell.init w)
  go_enter Try.func18, Try.ntmps18
  go_wp2_with (first | ((with_reducible refine gate_dst (N := 2) rfl ?_); refine box_event ?hg (N := 2) ?hd (cs := #[.int .i64 a0_0, .int .i64 a0_1, .slice A0_2 l0_2.length c0_2]) (t := 24) ?hr ?_; (case hd => rfl); (case hg => rfl); (case hr => first | (go_simp; done) | (go_simp; rfl)); intro g_b hg w_2 hbox hb; replace HT := Aside0.mk (HT.out.pushBe hbox hg hb); clear hb hbox hg) | ((with_reducible refine gate_dst (N := 3) rfl ?_); refine box_event ?hg (N := 3) ?hd (cs := #[.int .i64 a1_0, .int .i64 a1_1]) (t := 26) ?hr ?_; (case hd => rfl); (case hg => rfl); (case hr => first | (go_simp; done) | (go_simp; rfl)); intro g_s hg w_3 hbox hb; replace HT := Aside0.mk (HT.out.pushBe hbox hg hb); clear hb hbox hg) | ((with_reducible refine gate_dst (N := 4) rfl ?_); refine box_event ?hg (N := 4) ?hd (cs := #[.int .i64 0, .int .i64 0, .slice none 0 0]) (t := 24) ?hr ?_; (case hd => rfl); (case hg => rfl); (case hr => first | (go_simp; done) | (go_simp; rfl)); intro g_r hg w_4 hbox hb; replace HT := Aside0.mk (HT.out.pushBe hbox hg hb); clear hb hbox hg; have hx0_b := (HT.out.bx 2 rfl 0).trans rfl; have hx1_b := (HT.out.bx 2 rfl 1).trans rfl; have hx2_b := (HT.out.bx 2 rfl 2).trans rfl; have hz_b := (HT.out.far 2 rfl (k := g_b) rfl).1) | ((with_reducible refine gate_dst (N := 11) rfl ?_); (try (refine gate_guard (by rfl) ?_; dsimp only)); refine goesL_ (some 11) rfl rfl Try.func33 (by kernel_rfl) rfl #[.agg #[.int .i64 a0_0, .int .i64 a0_1, .slice A0_2 l0_2.length c0_2]] rfl (by (try simp only [List.map_toArray, List.map_cons, List.map_nil]); first | done | rfl) ?_; (with_reducible refine (watchmanref08_Is.calls k a0_0 a0_1 _ _ l0_2 false _ ?s1 ?s2 E0.out).mono ?_); (case s1 => exact Kd.C_below HR0.out HT.out.below); (case s2 => exact HC0.out); rintro e_ w_11 ⟨rfl, hb⟩; refine ⟨_, rfl, ?_⟩; replace HT := Aside0.mk (HT.out.step hb); clear hb; have hf0_ := HT.out.fz 0 rfl 0; have hf1_ := HT.out.fz 0 rfl 1; have hf2_ := HT.out.fz 0 rfl 2; have hx0_r := (HT.out.bx 0 rfl 0).trans rfl; have hx1_r := (HT.out.bx 0 rfl 1).trans rfl; have hx2_r := (HT.out.bx 0 rfl 2).trans rfl; have hz_r := (HT.out.far 0 rfl (k := g_r) rfl).1))
  have HF := (((HT.out.put 0 rfl 0 (.int .i64 0)).put 0 rfl 1 (.int .i64 0)).put 0 rfl 2 (.slice none 0 0))
  refine bodyPost_ret (results_ct rfl _ _ g_r 24 #[.int .i64 0, .int .i64 0, .slice none 0 0] (0, 0) _ rfl (HF.get 0 rfl) Try.underlying24 rfl (by kernel_rfl)) rfl ?_
  exact ⟨_, rfl, Kd.R_nil _ _ _ _ _, HF.below⟩
set_option maxHeartbeats 8000000 in
set_option maxRecDepth 100000 in
theorem watchmanref08_Drop.e2 (k : Nat) (a0_0 a0_1 : Int) (A0_2 : Option Addr) (c0_2 : Nat) (l0_2 : List S28) (a1_0 a1_1 : Int) (t1 t2 t3 t4 t5 t6 : Int) (w : World) (hr0_2 : Kd.C k28 w A0_2 l0_2.length l0_2) (hc0_2 : l0_2.length ≤ c0_2) (E0 : watchmanref08_Is.f k a0_0 a0_1 l0_2 = some true) (E1 : watchmanref08_Get.f k a0_0 a0_1 l0_2 a1_0 a1_1 = some (t1, t2, t3, t4, t5, t6, false)) :
    Calls Try.prog 18 #[.agg #[.int .i64 a0_0, .int .i64 a0_1, .slice A0_2 l0_2.length c0_2], .agg #[.int .i64 a1_0, .int .i64 a1_1]] w fun e w' => ∃ v2_ : Value, e = .returned (.tuple #[.agg #[.int .i64 0, .int .i64 0, v2_], .int .i64 80]) ∧ Kd.R k28 28 w' w.heap.size (fun _ => True) v2_ ([] : List S28) ∧ Below w.heap.size w w' := by
  have hu0 := Try.underlying24
  have hu1 := Try.underlying28
  have hu2 := Try.underlying26
  have HR0 := Aside0.mk hr0_2
  have HC0 := Aside0.mk hc0_2
  clear hr0_2 hc0_2
  replace E0 := Aside0.mk E0
  replace E1 := Aside0.mk E1
  have HT := Aside0.mk (T.Tell.init w)
  go_enter Try.func18, Try.ntmps18
  go_wp2_with (first | ((with_reducible refine gate_dst (N := 2) rfl ?_); refine box_event ?hg (N := 2) ?hd (cs := #[.int .i64 a0_0, .int .i64 a0_1, .slice A0_2 l0_2.length c0_2]) (t := 24) ?hr ?_; (case hd => rfl); (case hg => rfl); (case hr => first | (go_simp; done) | (go_simp; rfl)); intro g_b hg w_2 hbox hb; replace HT := Aside0.mk (HT.out.pushBe hbox hg hb); clear hb hbox hg) | ((with_reducible refine gate_dst (N := 3) rfl ?_); refine box_event ?hg (N := 3) ?hd (cs := #[.int .i64 a1_0, .int .i64 a1_1]) (t := 26) ?hr ?_; (case hd => rfl); (case hg => rfl); (case hr => first | (go_simp; done) | (go_simp; rfl)); intro g_s hg w_3 hbox hb; replace HT := Aside0.mk (HT.out.pushBe hbox hg hb); clear hb hbox hg) | ((with_reducible refine gate_dst (N := 4) rfl ?_); refine box_event ?hg (N := 4) ?hd (cs := #[.int .i64 0, .int .i64 0, .slice none 0 0]) (t := 24) ?hr ?_; (case hd => rfl); (case hg => rfl); (case hr => first | (go_simp; done) | (go_simp; rfl)); intro g_r hg w_4 hbox hb; replace HT := Aside0.mk (HT.out.pushBe hbox hg hb); clear hb hbox hg; have hx0_b := (HT.out.bx 2 rfl 0).trans rfl; have hx1_b := (HT.out.bx 2 rfl 1).trans rfl; have hx2_b := (HT.out.bx 2 rfl 2).trans rfl; have hz_b := (HT.out.far 2 rfl (k := g_b) rfl).1) | ((with_reducible refine gate_dst (N := 11) rfl ?_); (try (refine gate_guard (by rfl) ?_; dsimp only)); refine goesL_ (some 11) rfl rfl Try.func33 (by kernel_rfl) rfl #[.agg #[.int .i64 a0_0, .int .i64 a0_1, .slice A0_2 l0_2.length c0_2]] rfl (by (try simp only [List.map_toArray, List.map_cons, List.map_nil]); first | done | rfl) ?_; (with_reducible refine (watchmanref08_Is.calls k a0_0 a0_1 _ _ l0_2 true _ ?s1 ?s2 E0.out).mono ?_); (case s1 => exact Kd.C_below HR0.out HT.out.below); (case s2 => exact HC0.out); rintro e_ w_11 ⟨rfl, hb⟩; refine ⟨_, rfl, ?_⟩; replace HT := Aside0.mk (HT.out.step hb); clear hb; have hx0_b := (HT.out.bx 2 rfl 0).trans rfl; have hx1_b := (HT.out.bx 2 rfl 1).trans rfl; have hx2_b := (HT.out.bx 2 rfl 2).trans rfl; have hz_b := (HT.out.far 2 rfl (k := g_b) rfl).1; have hx0_s := (HT.out.bx 1 rfl 0).trans rfl; have hx1_s := (HT.out.bx 1 rfl 1).trans rfl; have hz_s := (HT.out.far 1 rfl (k := g_s) rfl).1; have hf0_ := HT.out.fz 0 rfl 0; have hf1_ := HT.out.fz 0 rfl 1; have hf2_ := HT.out.fz 0 rfl 2; have hx0_r := (HT.out.bx 0 rfl 0).trans rfl; have hx1_r := (HT.out.bx 0 rfl 1).trans rfl; have hx2_r := (HT.out.bx 0 rfl 2).trans rfl; have hz_r := (HT.out.far 0 rfl (k := g_r) rfl).1) | ((with_reducible refine gate_dst (N := 17) rfl ?_); (try (refine gate_guard (by rfl) ?_; dsimp only)); refine goesL_ (some 17) rfl rfl Try.func22 (by kernel_rfl) rfl #[.agg #[.int .i64 a0_0, .int .i64 a0_1, .slice A0_2 l0_2.length c0_2], .agg #[.int .i64 a1_0, .int .i64 a1_1]] rfl (by (try simp only [List.map_toArray, List.map_cons, List.map_nil]); first | done | rfl) ?_; (with_reducible refine (watchmanref08_Get.calls k a0_0 a0_1 _ _ l0_2 a1_0 a1_1 t1 t2 t3 t4 t5 t6 false _ ?s1 ?s2 E1.out).mono ?_); (case s1 => exact Kd.C_below HR0.out HT.out.below); (case s2 => exact HC0.out); rintro e_ w_17 ⟨rfl, hb⟩; refine ⟨_, rfl, ?_⟩; replace HT := Aside0.mk (HT.out.step hb); clear hb; have hf0_ := HT.out.fz 0 rfl 0; have hf1_ := HT.out.fz 0 rfl 1; have hf2_ := HT.out.fz 0 rfl 2; have hx0_r := (HT.out.bx 0 rfl 0).trans rfl; have hx1_r := (HT.out.bx 0 rfl 1).trans rfl; have hx2_r := (HT.out.bx 0 rfl 2).trans rfl; have hz_r := (HT.out.far 0 rfl (k := g_r) rfl).1))
  have HF := (((HT.out.put 0 rfl 0 (.int .i64 0)).put 0 rfl 1 (.int .i64 0)).put 0 rfl 2 (.slice none 0 0)).pushB #[.int .i64 t1, .int .i64 t2, .int .i64 t3, .int .i64 t4, .int .i64 t5, .int .i64 t6] 28
  refine bodyPost_ret (results_ct rfl _ _ g_r 24 #[.int .i64 0, .int .i64 0, .slice none 0 0] (0, 0) _ rfl (HF.get 1 rfl) Try.underlying24 rfl (by kernel_rfl)) rfl ?_
  exact ⟨_, rfl, Kd.R_nil _ _ _ _ _, HF.below⟩
set_option maxHeartbeats 8000000 in
set_option maxRecDepth 100000 in
theorem watchmanref08_Drop.main (k : Nat) (a0_0 a0_1 : Int) (A0_2 : Option Addr) (c0_2 : Nat) (l0_2 : List S28) (a1_0 a1_1 : Int) (t1 t2 t3 t4 t5 t6 : Int) (w : World) (hr0_2 : Kd.C k28 w A0_2 l0_2.length l0_2) (hc0_2 : l0_2.length ≤ c0_2) (E0 : watchmanref08_Is.f k a0_0 a0_1 l0_2 = some true) (E1 : watchmanref08_Get.f k a0_0 a0_1 l0_2 a1_0 a1_1 = some (t1, t2, t3, t4, t5, t6, true)) (hl : l0_2.length < 2932031007402) :
    Calls Try.prog 18 #[.agg #[.int .i64 a0_0, .int .i64 a0_1, .slice A0_2 l0_2.length c0_2], .agg #[.int .i64 a1_0, .int .i64 a1_1]] w fun e w' => ∃ v2_ : Value, e = .returned (.tuple #[.agg #[.int .i64 a0_0, .int .i64 a0_1, v2_], .int .i64 0]) ∧ Kd.R k28 28 w' w.heap.size (fun _ => True) v2_ (l0_2.filter (watchmanref08_Drop.p a1_0 a1_1)) ∧ Below w.heap.size w w' := by
  have hu0 := Try.underlying24
  have hu1 := Try.underlying28
  have hu2 := Try.underlying26
  have HR0 := Aside0.mk hr0_2
  have HC0 := Aside0.mk hc0_2
  clear hr0_2 hc0_2
  replace E0 := Aside0.mk E0
  replace E1 := Aside0.mk E1
  have HT := Aside0.mk (T.Tell.init w)
  go_enter Try.func18, Try.ntmps18
  go_wp2_with (first | ((with_reducible refine gate_dst (N := 2) rfl ?_); refine box_event ?hg (N := 2) ?hd (cs := #[.int .i64 a0_0, .int .i64 a0_1, .slice A0_2 l0_2.length c0_2]) (t := 24) ?hr ?_; (case hd => rfl); (case hg => rfl); (case hr => first | (go_simp; done) | (go_simp; rfl)); intro g_b hg w_2 hbox hb; replace HT := Aside0.mk (HT.out.pushBe hbox hg hb); clear hb hbox hg) | ((with_reducible refine gate_dst (N := 3) rfl ?_); refine box_event ?hg (N := 3) ?hd (cs := #[.int .i64 a1_0, .int .i64 a1_1]) (t := 26) ?hr ?_; (case hd => rfl); (case hg => rfl); (case hr => first | (go_simp; done) | (go_simp; rfl)); intro g_s hg w_3 hbox hb; replace HT := Aside0.mk (HT.out.pushBe hbox hg hb); clear hb hbox hg) | ((with_reducible refine gate_dst (N := 4) rfl ?_); refine box_event ?hg (N := 4) ?hd (cs := #[.int .i64 0, .int .i64 0, .slice none 0 0]) (t := 24) ?hr ?_; (case hd => rfl); (case hg => rfl); (case hr => first | (go_simp; done) | (go_simp; rfl)); intro g_r hg w_4 hbox hb; replace HT := Aside0.mk (HT.out.pushBe hbox hg hb); clear hb hbox hg; have hx0_b := (HT.out.bx 2 rfl 0).trans rfl; have hx1_b := (HT.out.bx 2 rfl 1).trans rfl; have hx2_b := (HT.out.bx 2 rfl 2).trans rfl; have hz_b := (HT.out.far 2 rfl (k := g_b) rfl).1) | ((with_reducible refine gate_dst (N := 11) rfl ?_); (try (refine gate_guard (by rfl) ?_; dsimp only)); refine goesL_ (some 11) rfl rfl Try.func33 (by kernel_rfl) rfl #[.agg #[.int .i64 a0_0, .int .i64 a0_1, .slice A0_2 l0_2.length c0_2]] rfl (by (try simp only [List.map_toArray, List.map_cons, List.map_nil]); first | done | rfl) ?_; (with_reducible refine (watchmanref08_Is.calls k a0_0 a0_1 _ _ l0_2 true _ ?s1 ?s2 E0.out).mono ?_); (case s1 => exact Kd.C_below HR0.out HT.out.below); (case s2 => exact HC0.out); rintro e_ w_11 ⟨rfl, hb⟩; refine ⟨_, rfl, ?_⟩; replace HT := Aside0.mk (HT.out.step hb); clear hb; have hx0_b := (HT.out.bx 2 rfl 0).trans rfl; have hx1_b := (HT.out.bx 2 rfl 1).trans rfl; have hx2_b := (HT.out.bx 2 rfl 2).trans rfl; have hz_b := (HT.out.far 2 rfl (k := g_b) rfl).1; have hx0_s := (HT.out.bx 1 rfl 0).trans rfl; have hx1_s := (HT.out.bx 1 rfl 1).trans rfl; have hz_s := (HT.out.far 1 rfl (k := g_s) rfl).1; have hf0_ := HT.out.fz 0 rfl 0; have hf1_ := HT.out.fz 0 rfl 1; have hf2_ := HT.out.fz 0 rfl 2; have hx0_r := (HT.out.bx 0 rfl 0).trans rfl; have hx1_r := (HT.out.bx 0 rfl 1).trans rfl; have hx2_r := (HT.out.bx 0 rfl 2).trans rfl; have hz_r := (HT.out.far 0 rfl (k := g_r) rfl).1) | ((with_reducible refine gate_dst (N := 17) rfl ?_); (try (refine gate_guard (by rfl) ?_; dsimp only)); refine goesL_ (some 17) rfl rfl Try.func22 (by kernel_rfl) rfl #[.agg #[.int .i64 a0_0, .int .i64 a0_1, .slice A0_2 l0_2.length c0_2], .agg #[.int .i64 a1_0, .int .i64 a1_1]] rfl (by (try simp only [List.map_toArray, List.map_cons, List.map_nil]); first | done | rfl) ?_; (with_reducible refine (watchmanref08_Get.calls k a0_0 a0_1 _ _ l0_2 a1_0 a1_1 t1 t2 t3 t4 t5 t6 true _ ?s1 ?s2 E1.out).mono ?_); (case s1 => exact Kd.C_below HR0.out HT.out.below); (case s2 => exact HC0.out); rintro e_ w_17 ⟨rfl, hb⟩; refine ⟨_, rfl, ?_⟩; replace HT := Aside0.mk (HT.out.step hb); clear hb; have hf0_ := HT.out.fz 0 rfl 0; have hf1_ := HT.out.fz 0 rfl 1; have hf2_ := HT.out.fz 0 rfl 2; have hx0_r := (HT.out.bx 0 rfl 0).trans rfl; have hx1_r := (HT.out.bx 0 rfl 1).trans rfl; have hx2_r := (HT.out.bx 0 rfl 2).trans rfl; have hz_r := (HT.out.far 0 rfl (k := g_r) rfl).1))
  replace HT := Aside0.mk (HT.out.pushB #[.int .i64 t1, .int .i64 t2, .int .i64 t3, .int .i64 t4, .int .i64 t5, .int .i64 t6] 28)
  generalize w_17.alloc _ = wn at HT ⊢
  have HTn := HT
  clear HT
  have HL := Aside0.mk hl
  have hll : (l0_2.length : Int) ≤ 9223372036854775807 := by omega
  clear hl
  go_loopw [8, 9] (fun v8 v9 wr => ∃ (xs : List S28) (i : Int), v9 = .int .i64 i ∧ 0 ≤ i ∧ i ≤ l0_2.length ∧ Aside0 (xs = (l0_2.take i.toNat).filter (watchmanref08_Drop.p a1_0 a1_1)) ∧ Aside0 (Kd.R k28 28 wr wn.heap.size (fun _ => True) v8 xs) ∧ Aside0 (Below wn.heap.size wn wr)) (fun _ v9 _ => l0_2.length - (intOf v9).toNat)
  case atStart => exact ⟨[], 0, rfl, by omega, by omega, ⟨by simp⟩, ⟨Kd.R_nil _ _ _ _ _⟩, ⟨Below.refl _ _⟩⟩
  case round =>
    obtain ⟨xs, i, rfl, p_, q_, HX, HO, HB⟩ := hrel
    have LM := Aside0.mk (show xs.length < 2932031007402 from by have h1 := HL.out; have h2 := List.length_filter_le (watchmanref08_Drop.p a1_0 a1_1) (l0_2.take i.toNat); rw [← HX.out] at h2; rw [List.length_take] at h2; omega)
    have HT := Aside0.mk (HTn.out.step HB.out)
    have HTN := HTn
    obtain ⟨A_o, c_o, rfl⟩ := Kd.R_slice HO.out
    by_cases hlt : i < (l0_2.length : Int)
    · clear HTn HTN
      obtain ⟨ad, e_, hy0, hy1, hy2, hy3, hy4, hy5⟩ := at_T28 HR0.out i p_ hlt
      cases e_
      have hz0 := (HT.out.below.cell (World.block_lt_of_cell? w _ hy0)).trans hy0; have hz1 := (HT.out.below.cell (World.block_lt_of_cell? w _ hy1)).trans hy1; have hxs0 := (HT.out.bx 2 rfl 0).trans rfl; have hxs1 := (HT.out.bx 2 rfl 1).trans rfl
      have hxb0 := (HT.out.bx 3 rfl 0).trans rfl; have hxb1 := (HT.out.bx 3 rfl 1).trans rfl; have hxb2 := (HT.out.bx 3 rfl 2).trans rfl
      have hsn : (l0_2.take (i + 1).toNat).filter (watchmanref08_Drop.p a1_0 a1_1) = xs ++ if watchmanref08_Drop.p a1_0 a1_1 (rd_T28 l0_2 i) = true then [(rd_T28 l0_2 i)] else [] := by
        have e1 : (i + 1).toNat = i.toNat + 1 := by omega
        have h1 : i.toNat < l0_2.length := by omega
        rw [HX.out, e1, List.take_add_one, List.filter_append, List.getElem?_eq_getElem h1]
        simp only [Option.toList_some, List.filter_cons, List.filter_nil, rd_T28, List.getD_eq_getElem?_getD, List.getElem?_eq_getElem h1, Option.getD_some]
      replace hsn := Aside0.mk hsn
      by_cases hp : watchmanref08_Drop.p a1_0 a1_1 (rd_T28 l0_2 i) = true
      · rw [if_pos hp] at hsn
        simp only [watchmanref08_Drop.p] at hp
        go_wp2
        go_quiet (fail)
        replace HT := Aside0.mk (HT.out.step (pw_below_drewN (Below.refl _ _) nq)); replace HO := Aside0.mk (Kd.R_drewN HO.out (m := nq)); replace HB := Aside0.mk (below_step HB.out (pw_below_drewN (Below.refl _ _) nq))
        generalize wr.drewN nq = w_q at HT HO HB ⊢
        have hz0 := (HT.out.below.cell (World.block_lt_of_cell? w _ hy0)).trans hy0; have hz1 := (HT.out.below.cell (World.block_lt_of_cell? w _ hy1)).trans hy1; have hz2 := (HT.out.below.cell (World.block_lt_of_cell? w _ hy2)).trans hy2; have hz3 := (HT.out.below.cell (World.block_lt_of_cell? w _ hy3)).trans hy3; have hz4 := (HT.out.below.cell (World.block_lt_of_cell? w _ hy4)).trans hy4; have hz5 := (HT.out.below.cell (World.block_lt_of_cell? w _ hy5)).trans hy5
        have hxc2 := (HT.out.bx 3 rfl 2).trans rfl
        go_wp2_with (first | ((with_reducible refine gate_builtin (b := .append) (xs := #[.tmp 38, .tmp 44]) rfl ?_); at_builtin; refine Kd.R_append k28 (w0 := wn) wn.heap.size rfl (.tmp 38) (.tmp 44) 22 28 (.agg #[.int .i64 0, .int .i64 0, .int .i64 0, .int .i64 0, .int .i64 0, .int .i64 0]) 48 rfl Try.underlying22 info28 rfl (by decide) (by omega) (.slice A_o xs.length c_o) xs (rd_T28 l0_2 i) [.int .i64 (rd_T28 l0_2 i).f0.f0, .int .i64 (rd_T28 l0_2 i).f0.f1, .int .i64 (rd_T28 l0_2 i).f1, .int .i64 (rd_T28 l0_2 i).f2, .int .i64 (rd_T28 l0_2 i).f3, .int .i64 (rd_T28 l0_2 i).f4] (fun _ => True) (fun _ => False) rfl rfl ?aP (fun _ hk => hk.elim) (fun _ _ => trivial) HO.out HB.out ?aS ?aL ?_; (case aP => exact k28_mkM _ _ _ (rd_T28 l0_2 i)); (case aS => exact HB.out.size); (case aL => have := LM.out; omega); intro v1 w1 ho hb _ _; clear HO HB; have HO := Aside0.mk ho; have HB := Aside0.mk hb; clear ho hb))
        go_roundw
        case rel => exact ⟨_, i + 1, rfl, by omega, by omega, ⟨hsn.out.symm⟩, HO, HB⟩
        case measure => simp [intOf]; omega
      · rw [if_neg hp, List.append_nil] at hsn
        replace hp := Bool.eq_false_iff.mpr hp
        simp only [watchmanref08_Drop.p] at hp
        go_wp2
        go_quiet (fail)
        replace HT := Aside0.mk (HT.out.step (pw_below_drewN (Below.refl _ _) nq)); replace HO := Aside0.mk (Kd.R_drewN HO.out (m := nq)); replace HB := Aside0.mk (below_step HB.out (pw_below_drewN (Below.refl _ _) nq))
        generalize wr.drewN nq = w_q at HT HO HB ⊢
        go_wp2
        go_roundw
        case rel => exact ⟨_, i + 1, rfl, by omega, by omega, ⟨hsn.out.symm⟩, HO, HB⟩
        case measure => simp [intOf]; omega
    · obtain rfl : i = (l0_2.length : Int) := by omega
      have hX := HX.out
      rw [Int.toNat_natCast, List.take_length] at hX
      clear HTn p_ q_ HX
      replace HT := Aside0.mk ((HTN.out.pushR HO.out HB.out))
      have hxb0 := (HT.out.bx 4 rfl 0).trans rfl; have hxb1 := (HT.out.bx 4 rfl 1).trans rfl; have hxb2 := (HT.out.bx 4 rfl 2).trans rfl
      have hxr0 := (HT.out.bx 2 rfl 0).trans rfl; have hxr1 := (HT.out.bx 2 rfl 1).trans rfl; have hxr2 := (HT.out.bx 2 rfl 2).trans rfl
      have hfr0 := HT.out.fz 2 rfl 0; have hfr1 := HT.out.fz 2 rfl 1; have hfr2 := HT.out.fz 2 rfl 2
      go_wp2
      subst hX
      have HF := (((HT.out.put 2 rfl 0 (.int .i64 a0_0)).put 2 rfl 1 (.int .i64 a0_1)).put 2 rfl 2 (.slice A_o (l0_2.filter (watchmanref08_Drop.p a1_0 a1_1)).length c_o))
      refine bodyPost_ret (results_ct rfl _ _ g_r 24 #[.int .i64 a0_0, .int .i64 a0_1, .slice A_o (l0_2.filter (watchmanref08_Drop.p a1_0 a1_1)).length c_o] (0, 0) _ rfl (HF.get 2 rfl) Try.underlying24 rfl (by kernel_rfl)) rfl ?_
      exact ⟨_, rfl, Kd.R_mono (HF.get 0 rfl) (fun _ _ => trivial), HF.below⟩

theorem watchmanref08_Drop.calls (k : Nat) (a0_0 a0_1 : Int) (A0_2 : Option Addr) (c0_2 : Nat) (l0_2 : List S28) (a1_0 a1_1 : Int) (r1 r2 : Int) (r3 : List S28) (r4 : Int) (w : World) (hr0_2 : Kd.C k28 w A0_2 l0_2.length l0_2) (hc0_2 : l0_2.length ≤ c0_2) (h : watchmanref08_Drop.f k a0_0 a0_1 l0_2 a1_0 a1_1 = some (r1, r2, r3, r4)) :
    Calls Try.prog 18 #[.agg #[.int .i64 a0_0, .int .i64 a0_1, .slice A0_2 l0_2.length c0_2], .agg #[.int .i64 a1_0, .int .i64 a1_1]] w fun e w' => ∃ v2_ : Value, e = .returned (.tuple #[.agg #[.int .i64 r1, .int .i64 r2, v2_], .int .i64 r4]) ∧ Kd.R k28 28 w' w.heap.size (fun _ => True) v2_ r3 ∧ Below w.heap.size w w' := by
  obtain ⟨t, h1, h⟩ := Option.bind_eq_some_iff.mp h
  cases t with
  | false =>
    obtain ⟨rfl, rfl, rfl, rfl⟩ : 0 = r1 ∧ 0 = r2 ∧ [] = r3 ∧ 1 = r4 := by simpa using h
    exact watchmanref08_Drop.e1 k a0_0 a0_1 A0_2 c0_2 l0_2 a1_0 a1_1 w hr0_2 hc0_2 h1
  | true =>
    rw [if_pos rfl] at h
    obtain ⟨⟨t1, t2, t3, t4, t5, t6, t7⟩, h2, h⟩ := Option.bind_eq_some_iff.mp h
    cases t7 with
    | false =>
      obtain ⟨rfl, rfl, rfl, rfl⟩ : 0 = r1 ∧ 0 = r2 ∧ [] = r3 ∧ 80 = r4 := by simpa using h
      exact watchmanref08_Drop.e2 k a0_0 a0_1 A0_2 c0_2 l0_2 a1_0 a1_1 t1 t2 t3 t4 t5 t6 w hr0_2 hc0_2 h1 h2
    | true =>
      simp only [if_true] at h
      by_cases hl : l0_2.length < 2932031007402
      · rw [if_pos hl] at h
        obtain ⟨rfl, rfl, rfl, rfl⟩ : a0_0 = r1 ∧ a0_1 = r2 ∧ _ = r3 ∧ 0 = r4 := by simpa only [Option.some.injEq, Prod.mk.injEq] using h
        exact watchmanref08_Drop.main k a0_0 a0_1 A0_2 c0_2 l0_2 a1_0 a1_1 t1 t2 t3 t4 t5 t6 w hr0_2 hc0_2 h1 h2 hl
      · rw [if_neg hl] at h
        cases h

/-! ### alarm_timed_due: function 66 -/
def alarm_timed_due.f (a0_0 : Int) (a0_1 : Int) (a0_2 : Int) (a0_3 : Int) (a0_4 : Int) (a0_5 : Int) (a1 : Int) : Option (Bool) := if a0_2 = 1 then (some (decide (a0_5 ≤ a1))) else (if a0_2 = 4 then (some (decide (a0_5 ≤ a1))) else (some false))
set_option maxHeartbeats 8000000 in
set_option maxRecDepth 100000 in
theorem alarm_timed_due.calls (a0_0 : Int) (a0_1 : Int) (a0_2 : Int) (a0_3 : Int) (a0_4 : Int) (a0_5 : Int) (a1 : Int) (r : Bool) (w : World) (h : alarm_timed_due.f a0_0 a0_1 a0_2 a0_3 a0_4 a0_5 a1 = some r) :
  Calls Try.prog 66 #[.agg #[.int .i64 a0_0, .int .i64 a0_1, .int .i64 a0_2, .int .i64 a0_3, .int .i64 a0_4, .int .i64 a0_5], .int .i64 a1] w fun e w' => e = .returned (.bool r) ∧ Below w.heap.size w w' := by
 have hu87 := Try.underlying87
 have HB := Aside0.mk (Below.refl w.heap.size w)
 have H : (if a0_2 = 1 then (some (decide (a0_5 ≤ a1))) else (if a0_2 = 4 then (some (decide (a0_5 ≤ a1))) else (some false))) = some r := h
 clear h
 by_cases c3 : a0_2 = 1
 ·rw [if_pos c3] at H
  have c3b0 : (a0_2 == 1) = true := beq_iff_eq.mpr c3
  have c3b1 : (a0_2 != 1) = false := bne_eq_false_iff_eq.mpr c3
  clear c3
  obtain rfl := Option.some.inj H
  go_enter Try.func66, Try.ntmps66
  go_wp2_with (first | ((with_reducible refine gate_dst (N := 2) rfl ?_); refine box_event ?hg (N := 2) ?hd (cs := #[.int .i64 a0_0, .int .i64 a0_1, .int .i64 a0_2, .int .i64 a0_3, .int .i64 a0_4, .int .i64 a0_5]) (t := 87) ?hr ?_; (case hd => rfl); (case hg => rfl); (case hr => first | (go_simp; done) | (go_simp; rfl)); intro gb245 hg w4 hbox hb; have BK245 := Aside0.mk (hbox); have GW245 := Aside0.mk ((by rw [hg]; exact (below_size HB.out) : w.heap.size ≤ gb245)); have GE245 := Aside0.mk ((by rw [hg]; exact (below_size HB.out) : w.heap.size ≤ gb245)); replace HB := Aside0.mk (below_step HB.out hb); clear hb hbox hg; have hcz5_0 : w4.cell? ⟨gb245, 0, none⟩ = some (.int .i64 a0_0) := (blk_cell BK245.out 0).trans rfl; have hcz5_1 : w4.cell? ⟨gb245, 1, none⟩ = some (.int .i64 a0_1) := (blk_cell BK245.out 1).trans rfl; have hcz5_2 : w4.cell? ⟨gb245, 2, none⟩ = some (.int .i64 a0_2) := (blk_cell BK245.out 2).trans rfl; have hcz5_3 : w4.cell? ⟨gb245, 3, none⟩ = some (.int .i64 a0_3) := (blk_cell BK245.out 3).trans rfl; have hcz5_4 : w4.cell? ⟨gb245, 4, none⟩ = some (.int .i64 a0_4) := (blk_cell BK245.out 4).trans rfl; have hcz5_5 : w4.cell? ⟨gb245, 5, none⟩ = some (.int .i64 a0_5) := (blk_cell BK245.out 5).trans rfl; have hfz5_0 := blk_frozen BK245.out 0; have hfz5_1 := blk_frozen BK245.out 1; have hfz5_2 := blk_frozen BK245.out 2; have hfz5_3 := blk_frozen BK245.out 3; have hfz5_4 := blk_frozen BK245.out 4; have hfz5_5 := blk_frozen BK245.out 5))
  go_ret
  exact ⟨by first | rfl | (simp [errW_none, errW_some] <;> rfl) | (simp [*, errW_none, errW_some] <;> rfl), by repeat (with_reducible first | exact HB.out | apply pw_below_drewN | apply below_drew1 | refine below_set ?_ GE245.out)⟩
 ·rw [if_neg c3] at H
  have c3b0 : (a0_2 == 1) = false := beq_eq_false_iff_ne.mpr c3
  have c3b1 : (a0_2 != 1) = true := bne_iff_ne.mpr c3
  by_cases c6 : a0_2 = 4
  ·rw [if_pos c6] at H
   have c6b0 : (a0_2 == 4) = true := beq_iff_eq.mpr c6
   have c6b1 : (a0_2 != 4) = false := bne_eq_false_iff_eq.mpr c6
   clear c6
   obtain rfl := Option.some.inj H
   go_enter Try.func66, Try.ntmps66
   go_wp2_with (first | ((with_reducible refine gate_dst (N := 2) rfl ?_); refine box_event ?hg (N := 2) ?hd (cs := #[.int .i64 a0_0, .int .i64 a0_1, .int .i64 a0_2, .int .i64 a0_3, .int .i64 a0_4, .int .i64 a0_5]) (t := 87) ?hr ?_; (case hd => rfl); (case hg => rfl); (case hr => first | (go_simp; done) | (go_simp; rfl)); intro gb245 hg w7 hbox hb; have BK245 := Aside0.mk (hbox); have GW245 := Aside0.mk ((by rw [hg]; exact (below_size HB.out) : w.heap.size ≤ gb245)); have GE245 := Aside0.mk ((by rw [hg]; exact (below_size HB.out) : w.heap.size ≤ gb245)); replace HB := Aside0.mk (below_step HB.out hb); clear hb hbox hg; have hcz8_0 : w7.cell? ⟨gb245, 0, none⟩ = some (.int .i64 a0_0) := (blk_cell BK245.out 0).trans rfl; have hcz8_1 : w7.cell? ⟨gb245, 1, none⟩ = some (.int .i64 a0_1) := (blk_cell BK245.out 1).trans rfl; have hcz8_2 : w7.cell? ⟨gb245, 2, none⟩ = some (.int .i64 a0_2) := (blk_cell BK245.out 2).trans rfl; have hcz8_3 : w7.cell? ⟨gb245, 3, none⟩ = some (.int .i64 a0_3) := (blk_cell BK245.out 3).trans rfl; have hcz8_4 : w7.cell? ⟨gb245, 4, none⟩ = some (.int .i64 a0_4) := (blk_cell BK245.out 4).trans rfl; have hcz8_5 : w7.cell? ⟨gb245, 5, none⟩ = some (.int .i64 a0_5) := (blk_cell BK245.out 5).trans rfl; have hfz8_0 := blk_frozen BK245.out 0; have hfz8_1 := blk_frozen BK245.out 1; have hfz8_2 := blk_frozen BK245.out 2; have hfz8_3 := blk_frozen BK245.out 3; have hfz8_4 := blk_frozen BK245.out 4; have hfz8_5 := blk_frozen BK245.out 5))
   go_ret
   exact ⟨by first | rfl | (simp [errW_none, errW_some] <;> rfl) | (simp [*, errW_none, errW_some] <;> rfl), by repeat (with_reducible first | exact HB.out | apply pw_below_drewN | apply below_drew1 | refine below_set ?_ GE245.out)⟩
  ·rw [if_neg c6] at H
   have c6b0 : (a0_2 == 4) = false := beq_eq_false_iff_ne.mpr c6
   have c6b1 : (a0_2 != 4) = true := bne_iff_ne.mpr c6
   obtain rfl := Option.some.inj H
   go_enter Try.func66, Try.ntmps66
   go_wp2_with (first | ((with_reducible refine gate_dst (N := 2) rfl ?_); refine box_event ?hg (N := 2) ?hd (cs := #[.int .i64 a0_0, .int .i64 a0_1, .int .i64 a0_2, .int .i64 a0_3, .int .i64 a0_4, .int .i64 a0_5]) (t := 87) ?hr ?_; (case hd => rfl); (case hg => rfl); (case hr => first | (go_simp; done) | (go_simp; rfl)); intro gb245 hg w9 hbox hb; have BK245 := Aside0.mk (hbox); have GW245 := Aside0.mk ((by rw [hg]; exact (below_size HB.out) : w.heap.size ≤ gb245)); have GE245 := Aside0.mk ((by rw [hg]; exact (below_size HB.out) : w.heap.size ≤ gb245)); replace HB := Aside0.mk (below_step HB.out hb); clear hb hbox hg; have hcz10_0 : w9.cell? ⟨gb245, 0, none⟩ = some (.int .i64 a0_0) := (blk_cell BK245.out 0).trans rfl; have hcz10_1 : w9.cell? ⟨gb245, 1, none⟩ = some (.int .i64 a0_1) := (blk_cell BK245.out 1).trans rfl; have hcz10_2 : w9.cell? ⟨gb245, 2, none⟩ = some (.int .i64 a0_2) := (blk_cell BK245.out 2).trans rfl; have hcz10_3 : w9.cell? ⟨gb245, 3, none⟩ = some (.int .i64 a0_3) := (blk_cell BK245.out 3).trans rfl; have hcz10_4 : w9.cell? ⟨gb245, 4, none⟩ = some (.int .i64 a0_4) := (blk_cell BK245.out 4).trans rfl; have hcz10_5 : w9.cell? ⟨gb245, 5, none⟩ = some (.int .i64 a0_5) := (blk_cell BK245.out 5).trans rfl; have hfz10_0 := blk_frozen BK245.out 0; have hfz10_1 := blk_frozen BK245.out 1; have hfz10_2 := blk_frozen BK245.out 2; have hfz10_3 := blk_frozen BK245.out 3; have hfz10_4 := blk_frozen BK245.out 4; have hfz10_5 := blk_frozen BK245.out 5))
   go_ret
   exact ⟨by first | rfl | (simp [errW_none, errW_some] <;> rfl) | (simp [*, errW_none, errW_some] <;> rfl), by repeat (with_reducible first | exact HB.out | apply pw_below_drewN | apply below_drew1 | refine below_set ?_ GE245.out)⟩

/-! ### life_is: function 102 -/
def life_is.f (a0 : Int) : Option (Bool) := if a0 ≥ 0 then (some (decide (a0 < 5))) else (some false)
set_option maxHeartbeats 8000000 in
set_option maxRecDepth 100000 in
theorem life_is.calls (a0 : Int) (r : Bool) (w : World) (h : life_is.f a0 = some r) :
  Calls Try.prog 102 #[.int .i64 a0] w fun e w' => e = .returned (.bool r) ∧ Drawn0 w w' := by
 have H : (if a0 ≥ 0 then (some (decide (a0 < 5))) else (some false)) = some r := h
 clear h
 by_cases c2 : a0 ≥ 0
 ·rw [if_pos c2] at H
  have c2b0 : decide (0 ≤ a0) = true := decide_eq_true c2
  clear c2
  obtain rfl := Option.some.inj H
  go_enter Try.func102, Try.ntmps102
  go_wp2
  go_ret
  exact ⟨by first | rfl | (simp; done) | (simp [*]; done), by repeat (first | exact Drawn0.refl _ | apply Drawn0.step)⟩
 ·rw [if_neg c2] at H
  have c2b0 : decide (0 ≤ a0) = false := decide_eq_false c2
  clear c2
  obtain rfl := Option.some.inj H
  go_enter Try.func102, Try.ntmps102
  go_wp2
  go_ret
  exact ⟨by first | rfl | (simp; done) | (simp [*]; done), by repeat (first | exact Drawn0.refl _ | apply Drawn0.step)⟩

/-! ### life_table: function 103 -/
def life_rows : List (List Int) := [[-1, 1, -1, -1, -1, -1, -1], [-1, 1, 2, 3, 4, 0, -1], [-1, 2, -1, 3, 4, 0, -1], [-1, 1, -1, -1, 4, 0, -1], [-1, 4, -1, 3, -1, 0, 1]]
def life_tab (p d : Int) : Int := (life_rows.getD p.toNat []).getD d.toNat (-1)
def life_row (p : Int) : Value := .agg ((life_rows.getD p.toNat []).map (Value.int .i64)).toArray
def life_all : Value := .agg #[.int .i64 (-1), .int .i64 1, .int .i64 (-1), .int .i64 (-1), .int .i64 (-1), .int .i64 (-1), .int .i64 (-1), .int .i64 (-1), .int .i64 1, .int .i64 2, .int .i64 3, .int .i64 4, .int .i64 0, .int .i64 (-1), .int .i64 (-1), .int .i64 2, .int .i64 (-1), .int .i64 3, .int .i64 4, .int .i64 0, .int .i64 (-1), .int .i64 (-1), .int .i64 1, .int .i64 (-1), .int .i64 (-1), .int .i64 4, .int .i64 0, .int .i64 (-1), .int .i64 (-1), .int .i64 4, .int .i64 (-1), .int .i64 3, .int .i64 (-1), .int .i64 0, .int .i64 1]
theorem life_idx (p : Int) (h0 : 0 ≤ p) (h1 : p < 5) (w : World) : (Instr.index 126 life_all (.int .i64 p)).run Try.prog w = .ok (life_row p) w := by
  have hc : p = 0 ∨ p = 1 ∨ p = 2 ∨ p = 3 ∨ p = 4 := by omega
  clear h0 h1
  rcases hc with rfl | rfl | rfl | rfl | rfl <;> (show (Instr.index _ _ _).run _ _ = _; kernel_rfl)
theorem life_idx2 (p d : Int) (h0 : 0 ≤ p) (h1 : p < 5) (h2 : 1 ≤ d) (h3 : d < 7) (w : World) : (Instr.index 125 (life_row p) (.int .i64 d)).run Try.prog w = .ok (.int .i64 (life_tab p d)) w := by
  have hc : p = 0 ∨ p = 1 ∨ p = 2 ∨ p = 3 ∨ p = 4 := by omega
  have hd : d = 1 ∨ d = 2 ∨ d = 3 ∨ d = 4 ∨ d = 5 ∨ d = 6 := by omega
  rcases hc with rfl | rfl | rfl | rfl | rfl <;> rcases hd with rfl | rfl | rfl | rfl | rfl | rfl <;> (show (Instr.index _ _ _).run _ _ = _; kernel_rfl)
def life_zero : Array Value := #[.int .i64 0, .int .i64 0, .int .i64 0, .int .i64 0, .int .i64 0, .int .i64 0, .int .i64 0, .int .i64 0, .int .i64 0, .int .i64 0, .int .i64 0, .int .i64 0, .int .i64 0, .int .i64 0, .int .i64 0, .int .i64 0, .int .i64 0, .int .i64 0, .int .i64 0, .int .i64 0, .int .i64 0, .int .i64 0, .int .i64 0, .int .i64 0, .int .i64 0, .int .i64 0, .int .i64 0, .int .i64 0, .int .i64 0, .int .i64 0, .int .i64 0, .int .i64 0, .int .i64 0, .int .i64 0, .int .i64 0]
set_option maxHeartbeats 8000000 in
set_option maxRecDepth 100000 in
theorem life_table.calls (w : World) :
    Calls Try.prog 103 #[] w fun e w' => e = .returned life_all ∧ Below w.heap.size w w' := by
  go_enter Try.func103, Try.ntmps103
  go_wp2_with (refine wpList_store_row rfl 126 _ _ rfl w.heap.size life_all.cells rfl rfl 126 life_zero (heap_alloc_last w _) (by kernel_rfl) (by kernel_rfl) (by kernel_rfl) ?_)
  rw [World.setRow_alloc_new]
  go_wp2
  exact bodyPost_ret (v := life_all) (results_cell_row rfl _ _ w.heap.size 126 life_all.cells (0, 0) _ rfl (heap_alloc_last w _) Try.underlying126 rfl (by kernel_rfl)) rfl ⟨rfl, (Below.refl _ _).alloc (Nat.le_refl _) _⟩

end Go.Proofs.Ytcfpbmdndapeaaa.F
