-- Written by a program of this session (xprint.py), out of the translation and of contracts proved by hand.
import Derived.Test.YtofbkpdpgmjllaaF0
import Derived.Test.YtofbkpdpgmjllaaF3
import Derived.Test.YtofbkpdpgmjllaaF4
import Derived.Test.YtofbkpdpgmjllaaF5
import Derived.Test.YtofbkpdpgmjllaaF6
import Derived.Test.YtofbkpdpgmjllaaF7
namespace Go.Proofs.Ytofbkpdpgmjllaa.F
open Go.RowKit Go.Proofs.YtofbkpdpgmjllaaW.PrintWords Go.Proofs.YtofbkpdpgmjllaaW.PrintLast Go.Proofs.YtofbkpdpgmjllaaW.PrintMore
attribute [local go_sem] max2_int min2_int max_two min_two max_three min_three max_four min_four   -- for this text's walks alone
set_option linter.unusedVariables false
set_option linter.unusedSimpArgs false

/-! ### post_Send: function 10 -/
def whoB (x : Int) : Bool := decide (0 ≤ x) && decide (x ≤ 20)
def longB (l : List ByteArray) : Bool := l.any (fun s => decide (2000 < (s.size : Int)))
/-- The bodies, one behind the other: the next No, the letters, how many are lost. -/
def sendL (f t : Int) : Int → List S35 → Int → List ByteArray → Int × List S35 × Int
  | n, l, k, [] => (n, l, k)
  | n, l, k, s :: ss =>
    if (roomL t l).length < 200 then sendL f t (wrap64 (n + 1)) (roomL t l ++ [⟨n, f, t, s⟩]) (wrap64 (k + (roomN t l : Int))) ss
    else sendL f t (wrap64 (n + 1)) (roomL t l) (wrap64 (wrap64 (k + (roomN t l : Int)) + 1)) ss
def sendR (b : Bool) (n : Int) (l : List S35) (f t : Int) (ss : List ByteArray) : Int × List S35 × Int × Int :=
  if b = true ∧ whoB f = true ∧ whoB t = true ∧ longB ss = false then
    if n > 1000000000 - (ss.length : Int) then (0, [], 0, 2) else ((sendL f t n l 0 ss).1, (sendL f t n l 0 ss).2.1, (sendL f t n l 0 ss).2.2, 0)
  else (0, [], 0, 1)
def post_Send.f (k : Nat) (a0_0 : Int) (l0_1 : List S35) (a1 : Int) (a2 : Int) (l3 : List ByteArray) : Option (Int × List S35 × Int × Int) :=
  (post_Is.f k a0_0 l0_1).bind fun b => if l0_1.length < 1099511627776 then some (sendR b a0_0 l0_1 a1 a2 l3) else none
theorem post_Send.mono : ∀ a0 a1 a2 a3 a4 k, LeO (post_Send.f k a0 a1 a2 a3 a4) (post_Send.f (k + 1) a0 a1 a2 a3 a4) := by
  intro a0 a1 a2 a3 a4 k
  unfold post_Send.f
  exact LeO.bind (post_Is.mono a0 a1 k) (fun b => LeO.refl _)
theorem post_Send.who_any (x : Int) (w : World) : Calls Try.prog 29 #[.int .i64 x] w fun e w' => e = .returned (.bool (whoB x)) ∧ Drawn0 w w' := post_who.calls x (whoB x) w (by
  unfold post_who.f whoB
  by_cases h : x ≥ 0
  · rw [if_pos h, decide_eq_true (show 0 ≤ x from h), Bool.true_and]
  · rw [if_neg h, decide_eq_false (show ¬ 0 ≤ x from h), Bool.false_and])
theorem post_Send.long_one (W : World) (x : ByteArray) : Calls Try.prog 28 (#[.string x] ++ #[]) W fun e w' => e = .returned (.bool (decide (2000 < (x.size : Int)))) ∧ Below W.heap.size W w' := by
  show Calls Try.prog 28 #[.string x] W _
  go_enter Try.func28, Try.ntmps28
  go_wp2
  all_goals (go_ret; exact ⟨by first | rfl | (simp_all; done) | (simp; omega), Below.refl _ _⟩)
set_option maxHeartbeats 8000000 in
set_option maxRecDepth 100000 in
theorem post_Send.calls (k : Nat) (a0_0 : Int) (A0_1 : Option Addr) (c0_1 : Nat) (l0_1 : List S35) (a1 : Int) (a2 : Int) (A3 : Option Addr) (c3 : Nat) (l3 : List ByteArray) (r1 : Int) (r2 : List S35) (r3 : Int) (r4 : Int) (w : World) (hr0_1 : Kd.C k35 w A0_1 l0_1.length l0_1) (hc0_1 : l0_1.length ≤ c0_1) (hr3 : Kd.C Kd.string w A3 l3.length l3) (hc3 : l3.length ≤ c3) (h : post_Send.f k a0_0 l0_1 a1 a2 l3 = some (r1, r2, r3, r4)) :
    Calls Try.prog 10 #[.agg #[.int .i64 a0_0, .slice A0_1 l0_1.length c0_1], .int .i64 a1, .int .i64 a2, .slice A3 l3.length c3] w fun e w' => ∃ v1_ : Value, e = .returned (.tuple #[.agg #[.int .i64 r1, v1_], .int .i64 r3, .int .i64 r4]) ∧ Kd.R k35 35 w' w.heap.size (fun _ => True) v1_ r2 ∧ Below w.heap.size w w' := by
  have hu24 := Try.underlying24
  have hu35 := Try.underlying35
  have eg : ∀ args w, (callFunc 28 args).run Try.prog w = .ok (.enter 28 args) w := enters_of Try.func28 (by kernel_rfl) rfl
  have HR := Aside0.mk hr0_1
  have HC := Aside0.mk hc0_1
  have HR3 := Aside0.mk hr3
  have HC3 := Aside0.mk hc3
  clear hr0_1 hc0_1 hr3 hc3
  have HB := Aside0.mk (Below.refl w.heap.size w)
  have hh := Option.bind_eq_some_iff.mp h
  clear h
  obtain ⟨b, hb0, h⟩ := hh
  have IS := Aside0.mk hb0
  clear hb0
  by_cases hlen : l0_1.length < 1099511627776
  case neg => rw [if_neg hlen] at h; exact absurd h (by simp)
  rw [if_pos hlen] at h
  have LM := Aside0.mk hlen
  clear hlen
  replace h := Option.some.inj h
  generalize hLONG : longB l3 = lg at h
  have LONG : Aside0 (l3.any (fun s => decide (2000 < (s.size : Int))) = lg) := ⟨hLONG⟩
  by_cases hgood : b = true ∧ whoB a1 = true ∧ whoB a2 = true ∧ lg = false
  case neg =>
    have h2 : (r1, r2, r3, r4) = (0, [], 0, 1) := by rw [← h]; unfold sendR; rw [hLONG]; exact if_neg hgood
    simp only [Prod.mk.injEq] at h2
    obtain ⟨rfl, rfl, rfl, rfl⟩ := h2
    clear h hLONG
    cases b with
    | false =>
      clear hgood
      go_enter Try.func10, Try.ntmps10
      go_wp2_with (first | ((with_reducible refine gate_dst (N := 4) rfl ?_); refine box_event ?hg (N := 4) ?hd (cs := #[.int .i64 a0_0, .slice A0_1 l0_1.length c0_1]) (t := 24) ?hr ?_; (case hd => rfl); (case hg => rfl); (case hr => first | (go_simp; done) | (go_simp; rfl)); intro gbB hg w3 hbox hb; have n0_ := Aside0.mk (below_step HB.out hb); have n1_ := Aside0.mk hbox; have n2_ := Aside0.mk ((by rw [hg]; exact (below_size HB.out)) : w.heap.size ≤ gbB); clear HB; have HB := n0_; have BKB := n1_; have GEB := n2_; clear n0_ n1_ n2_; clear hb hbox hg) | ((with_reducible refine gate_dst (N := 8) rfl ?_); refine box_event ?hg (N := 8) ?hd (cs := #[.int .i64 0, .slice none 0 0]) (t := 24) ?hr ?_; (case hd => rfl); (case hg => rfl); (case hr => first | (go_simp; done) | (go_simp; rfl)); intro gbZ hg w4 hbox hb; have NEZ := Aside0.mk (show gbZ ≠ gbB from by rw [hg]; exact Nat.ne_of_gt (blk_lt BKB.out)); have n0_ := Aside0.mk (below_step HB.out hb); have n1_ := Aside0.mk hbox; have n2_ := Aside0.mk ((by rw [hg]; exact (below_size HB.out)) : w.heap.size ≤ gbZ); have m0_ := Aside0.mk (blk_below BKB.out hb); clear HB; clear BKB; have HB := n0_; have BKZ := n1_; have GEZ := n2_; have BKB := m0_; clear n0_ n1_ n2_ m0_; clear hb hbox hg; have hczB_0 : w4.cell? ⟨gbB, 0, none⟩ = some (.int .i64 a0_0) := (blk_cell BKB.out 0).trans rfl; have hczB_1 : w4.cell? ⟨gbB, 1, none⟩ = some (.slice A0_1 l0_1.length c0_1) := (blk_cell BKB.out 1).trans rfl; have hczZ_0 : w4.cell? ⟨gbZ, 0, none⟩ = some (.int .i64 0) := (blk_cell BKZ.out 0).trans rfl; have hczZ_1 : w4.cell? ⟨gbZ, 1, none⟩ = some (.slice none 0 0) := (blk_cell BKZ.out 1).trans rfl; have hfzZ_0 := blk_frozen BKZ.out 0; have hfzZ_1 := blk_frozen BKZ.out 1) | (go_at_call 25; refine (post_Is.calls k a0_0 A0_1 c0_1 l0_1 _ w4 (Kd.C_below HR.out HB.out) HC.out IS.out).mono ?_; rintro e w5 ⟨rfl, hb⟩; have n0_ := Aside0.mk (below_step HB.out hb); have m0_ := Aside0.mk (blk_below BKB.out hb); have m1_ := Aside0.mk (blk_below BKZ.out hb); clear HB BKB BKZ; have HB := n0_; have BKB := m0_; have BKZ := m1_; clear n0_ m0_ m1_ hb; (try clear hczB_0 hczB_1 hczZ_0 hczZ_1 hfzZ_0 hfzZ_1); have hczB_0 : w5.cell? ⟨gbB, 0, none⟩ = some (.int .i64 a0_0) := (blk_cell BKB.out 0).trans rfl; have hczB_1 : w5.cell? ⟨gbB, 1, none⟩ = some (.slice A0_1 l0_1.length c0_1) := (blk_cell BKB.out 1).trans rfl; have hczZ_0 : w5.cell? ⟨gbZ, 0, none⟩ = some (.int .i64 0) := (blk_cell BKZ.out 0).trans rfl; have hczZ_1 : w5.cell? ⟨gbZ, 1, none⟩ = some (.slice none 0 0) := (blk_cell BKZ.out 1).trans rfl; have hfzZ_0 := blk_frozen BKZ.out 0; have hfzZ_1 := blk_frozen BKZ.out 1) | (go_at_call 29; refine (post_Send.who_any _ _).mono ?_; rintro e w5 ⟨rfl, hd⟩; have hb := hd.below; clear hd; have n0_ := Aside0.mk (below_step HB.out hb); have m0_ := Aside0.mk (blk_below BKB.out hb); have m1_ := Aside0.mk (blk_below BKZ.out hb); clear HB BKB BKZ; have HB := n0_; have BKB := m0_; have BKZ := m1_; clear n0_ m0_ m1_ hb; (try clear hczB_0 hczB_1 hczZ_0 hczZ_1 hfzZ_0 hfzZ_1); have hczB_0 : w5.cell? ⟨gbB, 0, none⟩ = some (.int .i64 a0_0) := (blk_cell BKB.out 0).trans rfl; have hczB_1 : w5.cell? ⟨gbB, 1, none⟩ = some (.slice A0_1 l0_1.length c0_1) := (blk_cell BKB.out 1).trans rfl; have hczZ_0 : w5.cell? ⟨gbZ, 0, none⟩ = some (.int .i64 0) := (blk_cell BKZ.out 0).trans rfl; have hczZ_1 : w5.cell? ⟨gbZ, 1, none⟩ = some (.slice none 0 0) := (blk_cell BKZ.out 1).trans rfl; have hfzZ_0 := blk_frozen BKZ.out 0; have hfzZ_1 := blk_frozen BKZ.out 1) | (go_at_call 30; refine (contfunc_S.calls (fun s => decide (2000 < (s.size : Int))) 28 #[] eg A3 c3 l3 w5 (fun W x hbw => (post_Send.long_one W x).mono (fun _ _ ⟨he, hb⟩ => ⟨he, below_then hbw hbw.size hb⟩)) (Kd.C_below HR3.out HB.out)).mono ?_; rintro e w6 ⟨rfl, hb⟩; rw [LONG.out]; have n0_ := Aside0.mk (below_step HB.out hb); have m0_ := Aside0.mk (blk_below BKB.out hb); have m1_ := Aside0.mk (blk_below BKZ.out hb); clear HB BKB BKZ; have HB := n0_; have BKB := m0_; have BKZ := m1_; clear n0_ m0_ m1_ hb; (try clear hczB_0 hczB_1 hczZ_0 hczZ_1 hfzZ_0 hfzZ_1); have hczB_0 : w6.cell? ⟨gbB, 0, none⟩ = some (.int .i64 a0_0) := (blk_cell BKB.out 0).trans rfl; have hczB_1 : w6.cell? ⟨gbB, 1, none⟩ = some (.slice A0_1 l0_1.length c0_1) := (blk_cell BKB.out 1).trans rfl; have hczZ_0 : w6.cell? ⟨gbZ, 0, none⟩ = some (.int .i64 0) := (blk_cell BKZ.out 0).trans rfl; have hczZ_1 : w6.cell? ⟨gbZ, 1, none⟩ = some (.slice none 0 0) := (blk_cell BKZ.out 1).trans rfl; have hfzZ_0 := blk_frozen BKZ.out 0; have hfzZ_1 := blk_frozen BKZ.out 1))
      refine bodyPost_ret (results_ctt rfl _ _ gbZ 24 #[.int .i64 0, .slice none 0 0] (0, 0) _ rfl (by refine blk_put (cs := #[.int .i64 0, .slice none 0 0]) ?_ 1 _ rfl; refine blk_put (cs := #[.int .i64 0, .slice none 0 0]) ?_ 0 _ rfl; exact BKZ.out) Try.underlying24 rfl (by kernel_rfl)) rfl ?_
      exact ⟨_, by first | rfl | (simp; done) | (simp [*]; done), Kd.R_nil _ _ _ _ _, by repeat (with_reducible first | exact HB.out | refine below_set ?_ GEZ.out)⟩
    | true =>
    cases hw1 : whoB a1 with
    | false =>
      clear hgood
      go_enter Try.func10, Try.ntmps10
      go_wp2_with (first | ((with_reducible refine gate_dst (N := 4) rfl ?_); refine box_event ?hg (N := 4) ?hd (cs := #[.int .i64 a0_0, .slice A0_1 l0_1.length c0_1]) (t := 24) ?hr ?_; (case hd => rfl); (case hg => rfl); (case hr => first | (go_simp; done) | (go_simp; rfl)); intro gbB hg w3 hbox hb; have n0_ := Aside0.mk (below_step HB.out hb); have n1_ := Aside0.mk hbox; have n2_ := Aside0.mk ((by rw [hg]; exact (below_size HB.out)) : w.heap.size ≤ gbB); clear HB; have HB := n0_; have BKB := n1_; have GEB := n2_; clear n0_ n1_ n2_; clear hb hbox hg) | ((with_reducible refine gate_dst (N := 8) rfl ?_); refine box_event ?hg (N := 8) ?hd (cs := #[.int .i64 0, .slice none 0 0]) (t := 24) ?hr ?_; (case hd => rfl); (case hg => rfl); (case hr => first | (go_simp; done) | (go_simp; rfl)); intro gbZ hg w4 hbox hb; have NEZ := Aside0.mk (show gbZ ≠ gbB from by rw [hg]; exact Nat.ne_of_gt (blk_lt BKB.out)); have n0_ := Aside0.mk (below_step HB.out hb); have n1_ := Aside0.mk hbox; have n2_ := Aside0.mk ((by rw [hg]; exact (below_size HB.out)) : w.heap.size ≤ gbZ); have m0_ := Aside0.mk (blk_below BKB.out hb); clear HB; clear BKB; have HB := n0_; have BKZ := n1_; have GEZ := n2_; have BKB := m0_; clear n0_ n1_ n2_ m0_; clear hb hbox hg; have hczB_0 : w4.cell? ⟨gbB, 0, none⟩ = some (.int .i64 a0_0) := (blk_cell BKB.out 0).trans rfl; have hczB_1 : w4.cell? ⟨gbB, 1, none⟩ = some (.slice A0_1 l0_1.length c0_1) := (blk_cell BKB.out 1).trans rfl; have hczZ_0 : w4.cell? ⟨gbZ, 0, none⟩ = some (.int .i64 0) := (blk_cell BKZ.out 0).trans rfl; have hczZ_1 : w4.cell? ⟨gbZ, 1, none⟩ = some (.slice none 0 0) := (blk_cell BKZ.out 1).trans rfl; have hfzZ_0 := blk_frozen BKZ.out 0; have hfzZ_1 := blk_frozen BKZ.out 1) | (go_at_call 25; refine (post_Is.calls k a0_0 A0_1 c0_1 l0_1 _ w4 (Kd.C_below HR.out HB.out) HC.out IS.out).mono ?_; rintro e w5 ⟨rfl, hb⟩; have n0_ := Aside0.mk (below_step HB.out hb); have m0_ := Aside0.mk (blk_below BKB.out hb); have m1_ := Aside0.mk (blk_below BKZ.out hb); clear HB BKB BKZ; have HB := n0_; have BKB := m0_; have BKZ := m1_; clear n0_ m0_ m1_ hb; (try clear hczB_0 hczB_1 hczZ_0 hczZ_1 hfzZ_0 hfzZ_1); have hczB_0 : w5.cell? ⟨gbB, 0, none⟩ = some (.int .i64 a0_0) := (blk_cell BKB.out 0).trans rfl; have hczB_1 : w5.cell? ⟨gbB, 1, none⟩ = some (.slice A0_1 l0_1.length c0_1) := (blk_cell BKB.out 1).trans rfl; have hczZ_0 : w5.cell? ⟨gbZ, 0, none⟩ = some (.int .i64 0) := (blk_cell BKZ.out 0).trans rfl; have hczZ_1 : w5.cell? ⟨gbZ, 1, none⟩ = some (.slice none 0 0) := (blk_cell BKZ.out 1).trans rfl; have hfzZ_0 := blk_frozen BKZ.out 0; have hfzZ_1 := blk_frozen BKZ.out 1) | (go_at_call 29; refine (post_Send.who_any _ _).mono ?_; rintro e w5 ⟨rfl, hd⟩; have hb := hd.below; clear hd; have n0_ := Aside0.mk (below_step HB.out hb); have m0_ := Aside0.mk (blk_below BKB.out hb); have m1_ := Aside0.mk (blk_below BKZ.out hb); clear HB BKB BKZ; have HB := n0_; have BKB := m0_; have BKZ := m1_; clear n0_ m0_ m1_ hb; (try clear hczB_0 hczB_1 hczZ_0 hczZ_1 hfzZ_0 hfzZ_1); have hczB_0 : w5.cell? ⟨gbB, 0, none⟩ = some (.int .i64 a0_0) := (blk_cell BKB.out 0).trans rfl; have hczB_1 : w5.cell? ⟨gbB, 1, none⟩ = some (.slice A0_1 l0_1.length c0_1) := (blk_cell BKB.out 1).trans rfl; have hczZ_0 : w5.cell? ⟨gbZ, 0, none⟩ = some (.int .i64 0) := (blk_cell BKZ.out 0).trans rfl; have hczZ_1 : w5.cell? ⟨gbZ, 1, none⟩ = some (.slice none 0 0) := (blk_cell BKZ.out 1).trans rfl; have hfzZ_0 := blk_frozen BKZ.out 0; have hfzZ_1 := blk_frozen BKZ.out 1) | (go_at_call 30; refine (contfunc_S.calls (fun s => decide (2000 < (s.size : Int))) 28 #[] eg A3 c3 l3 w5 (fun W x hbw => (post_Send.long_one W x).mono (fun _ _ ⟨he, hb⟩ => ⟨he, below_then hbw hbw.size hb⟩)) (Kd.C_below HR3.out HB.out)).mono ?_; rintro e w6 ⟨rfl, hb⟩; rw [LONG.out]; have n0_ := Aside0.mk (below_step HB.out hb); have m0_ := Aside0.mk (blk_below BKB.out hb); have m1_ := Aside0.mk (blk_below BKZ.out hb); clear HB BKB BKZ; have HB := n0_; have BKB := m0_; have BKZ := m1_; clear n0_ m0_ m1_ hb; (try clear hczB_0 hczB_1 hczZ_0 hczZ_1 hfzZ_0 hfzZ_1); have hczB_0 : w6.cell? ⟨gbB, 0, none⟩ = some (.int .i64 a0_0) := (blk_cell BKB.out 0).trans rfl; have hczB_1 : w6.cell? ⟨gbB, 1, none⟩ = some (.slice A0_1 l0_1.length c0_1) := (blk_cell BKB.out 1).trans rfl; have hczZ_0 : w6.cell? ⟨gbZ, 0, none⟩ = some (.int .i64 0) := (blk_cell BKZ.out 0).trans rfl; have hczZ_1 : w6.cell? ⟨gbZ, 1, none⟩ = some (.slice none 0 0) := (blk_cell BKZ.out 1).trans rfl; have hfzZ_0 := blk_frozen BKZ.out 0; have hfzZ_1 := blk_frozen BKZ.out 1))
      refine bodyPost_ret (results_ctt rfl _ _ gbZ 24 #[.int .i64 0, .slice none 0 0] (0, 0) _ rfl (by refine blk_put (cs := #[.int .i64 0, .slice none 0 0]) ?_ 1 _ rfl; refine blk_put (cs := #[.int .i64 0, .slice none 0 0]) ?_ 0 _ rfl; exact BKZ.out) Try.underlying24 rfl (by kernel_rfl)) rfl ?_
      exact ⟨_, by first | rfl | (simp; done) | (simp [*]; done), Kd.R_nil _ _ _ _ _, by repeat (with_reducible first | exact HB.out | refine below_set ?_ GEZ.out)⟩
    | true =>
    cases hw2 : whoB a2 with
    | false =>
      clear hgood
      go_enter Try.func10, Try.ntmps10
      go_wp2_with (first | ((with_reducible refine gate_dst (N := 4) rfl ?_); refine box_event ?hg (N := 4) ?hd (cs := #[.int .i64 a0_0, .slice A0_1 l0_1.length c0_1]) (t := 24) ?hr ?_; (case hd => rfl); (case hg => rfl); (case hr => first | (go_simp; done) | (go_simp; rfl)); intro gbB hg w3 hbox hb; have n0_ := Aside0.mk (below_step HB.out hb); have n1_ := Aside0.mk hbox; have n2_ := Aside0.mk ((by rw [hg]; exact (below_size HB.out)) : w.heap.size ≤ gbB); clear HB; have HB := n0_; have BKB := n1_; have GEB := n2_; clear n0_ n1_ n2_; clear hb hbox hg) | ((with_reducible refine gate_dst (N := 8) rfl ?_); refine box_event ?hg (N := 8) ?hd (cs := #[.int .i64 0, .slice none 0 0]) (t := 24) ?hr ?_; (case hd => rfl); (case hg => rfl); (case hr => first | (go_simp; done) | (go_simp; rfl)); intro gbZ hg w4 hbox hb; have NEZ := Aside0.mk (show gbZ ≠ gbB from by rw [hg]; exact Nat.ne_of_gt (blk_lt BKB.out)); have n0_ := Aside0.mk (below_step HB.out hb); have n1_ := Aside0.mk hbox; have n2_ := Aside0.mk ((by rw [hg]; exact (below_size HB.out)) : w.heap.size ≤ gbZ); have m0_ := Aside0.mk (blk_below BKB.out hb); clear HB; clear BKB; have HB := n0_; have BKZ := n1_; have GEZ := n2_; have BKB := m0_; clear n0_ n1_ n2_ m0_; clear hb hbox hg; have hczB_0 : w4.cell? ⟨gbB, 0, none⟩ = some (.int .i64 a0_0) := (blk_cell BKB.out 0).trans rfl; have hczB_1 : w4.cell? ⟨gbB, 1, none⟩ = some (.slice A0_1 l0_1.length c0_1) := (blk_cell BKB.out 1).trans rfl; have hczZ_0 : w4.cell? ⟨gbZ, 0, none⟩ = some (.int .i64 0) := (blk_cell BKZ.out 0).trans rfl; have hczZ_1 : w4.cell? ⟨gbZ, 1, none⟩ = some (.slice none 0 0) := (blk_cell BKZ.out 1).trans rfl; have hfzZ_0 := blk_frozen BKZ.out 0; have hfzZ_1 := blk_frozen BKZ.out 1) | (go_at_call 25; refine (post_Is.calls k a0_0 A0_1 c0_1 l0_1 _ w4 (Kd.C_below HR.out HB.out) HC.out IS.out).mono ?_; rintro e w5 ⟨rfl, hb⟩; have n0_ := Aside0.mk (below_step HB.out hb); have m0_ := Aside0.mk (blk_below BKB.out hb); have m1_ := Aside0.mk (blk_below BKZ.out hb); clear HB BKB BKZ; have HB := n0_; have BKB := m0_; have BKZ := m1_; clear n0_ m0_ m1_ hb; (try clear hczB_0 hczB_1 hczZ_0 hczZ_1 hfzZ_0 hfzZ_1); have hczB_0 : w5.cell? ⟨gbB, 0, none⟩ = some (.int .i64 a0_0) := (blk_cell BKB.out 0).trans rfl; have hczB_1 : w5.cell? ⟨gbB, 1, none⟩ = some (.slice A0_1 l0_1.length c0_1) := (blk_cell BKB.out 1).trans rfl; have hczZ_0 : w5.cell? ⟨gbZ, 0, none⟩ = some (.int .i64 0) := (blk_cell BKZ.out 0).trans rfl; have hczZ_1 : w5.cell? ⟨gbZ, 1, none⟩ = some (.slice none 0 0) := (blk_cell BKZ.out 1).trans rfl; have hfzZ_0 := blk_frozen BKZ.out 0; have hfzZ_1 := blk_frozen BKZ.out 1) | (go_at_call 29; refine (post_Send.who_any _ _).mono ?_; rintro e w5 ⟨rfl, hd⟩; have hb := hd.below; clear hd; have n0_ := Aside0.mk (below_step HB.out hb); have m0_ := Aside0.mk (blk_below BKB.out hb); have m1_ := Aside0.mk (blk_below BKZ.out hb); clear HB BKB BKZ; have HB := n0_; have BKB := m0_; have BKZ := m1_; clear n0_ m0_ m1_ hb; (try clear hczB_0 hczB_1 hczZ_0 hczZ_1 hfzZ_0 hfzZ_1); have hczB_0 : w5.cell? ⟨gbB, 0, none⟩ = some (.int .i64 a0_0) := (blk_cell BKB.out 0).trans rfl; have hczB_1 : w5.cell? ⟨gbB, 1, none⟩ = some (.slice A0_1 l0_1.length c0_1) := (blk_cell BKB.out 1).trans rfl; have hczZ_0 : w5.cell? ⟨gbZ, 0, none⟩ = some (.int .i64 0) := (blk_cell BKZ.out 0).trans rfl; have hczZ_1 : w5.cell? ⟨gbZ, 1, none⟩ = some (.slice none 0 0) := (blk_cell BKZ.out 1).trans rfl; have hfzZ_0 := blk_frozen BKZ.out 0; have hfzZ_1 := blk_frozen BKZ.out 1) | (go_at_call 30; refine (contfunc_S.calls (fun s => decide (2000 < (s.size : Int))) 28 #[] eg A3 c3 l3 w5 (fun W x hbw => (post_Send.long_one W x).mono (fun _ _ ⟨he, hb⟩ => ⟨he, below_then hbw hbw.size hb⟩)) (Kd.C_below HR3.out HB.out)).mono ?_; rintro e w6 ⟨rfl, hb⟩; rw [LONG.out]; have n0_ := Aside0.mk (below_step HB.out hb); have m0_ := Aside0.mk (blk_below BKB.out hb); have m1_ := Aside0.mk (blk_below BKZ.out hb); clear HB BKB BKZ; have HB := n0_; have BKB := m0_; have BKZ := m1_; clear n0_ m0_ m1_ hb; (try clear hczB_0 hczB_1 hczZ_0 hczZ_1 hfzZ_0 hfzZ_1); have hczB_0 : w6.cell? ⟨gbB, 0, none⟩ = some (.int .i64 a0_0) := (blk_cell BKB.out 0).trans rfl; have hczB_1 : w6.cell? ⟨gbB, 1, none⟩ = some (.slice A0_1 l0_1.length c0_1) := (blk_cell BKB.out 1).trans rfl; have hczZ_0 : w6.cell? ⟨gbZ, 0, none⟩ = some (.int .i64 0) := (blk_cell BKZ.out 0).trans rfl; have hczZ_1 : w6.cell? ⟨gbZ, 1, none⟩ = some (.slice none 0 0) := (blk_cell BKZ.out 1).trans rfl; have hfzZ_0 := blk_frozen BKZ.out 0; have hfzZ_1 := blk_frozen BKZ.out 1))
      refine bodyPost_ret (results_ctt rfl _ _ gbZ 24 #[.int .i64 0, .slice none 0 0] (0, 0) _ rfl (by refine blk_put (cs := #[.int .i64 0, .slice none 0 0]) ?_ 1 _ rfl; refine blk_put (cs := #[.int .i64 0, .slice none 0 0]) ?_ 0 _ rfl; exact BKZ.out) Try.underlying24 rfl (by kernel_rfl)) rfl ?_
      exact ⟨_, by first | rfl | (simp; done) | (simp [*]; done), Kd.R_nil _ _ _ _ _, by repeat (with_reducible first | exact HB.out | refine below_set ?_ GEZ.out)⟩
    | true =>
    cases lg with
    | false => exact absurd ⟨rfl, hw1, hw2, rfl⟩ hgood
    | true =>
      clear hgood
      go_enter Try.func10, Try.ntmps10
      go_wp2_with (first | ((with_reducible refine gate_dst (N := 4) rfl ?_); refine box_event ?hg (N := 4) ?hd (cs := #[.int .i64 a0_0, .slice A0_1 l0_1.length c0_1]) (t := 24) ?hr ?_; (case hd => rfl); (case hg => rfl); (case hr => first | (go_simp; done) | (go_simp; rfl)); intro gbB hg w3 hbox hb; have n0_ := Aside0.mk (below_step HB.out hb); have n1_ := Aside0.mk hbox; have n2_ := Aside0.mk ((by rw [hg]; exact (below_size HB.out)) : w.heap.size ≤ gbB); clear HB; have HB := n0_; have BKB := n1_; have GEB := n2_; clear n0_ n1_ n2_; clear hb hbox hg) | ((with_reducible refine gate_dst (N := 8) rfl ?_); refine box_event ?hg (N := 8) ?hd (cs := #[.int .i64 0, .slice none 0 0]) (t := 24) ?hr ?_; (case hd => rfl); (case hg => rfl); (case hr => first | (go_simp; done) | (go_simp; rfl)); intro gbZ hg w4 hbox hb; have NEZ := Aside0.mk (show gbZ ≠ gbB from by rw [hg]; exact Nat.ne_of_gt (blk_lt BKB.out)); have n0_ := Aside0.mk (below_step HB.out hb); have n1_ := Aside0.mk hbox; have n2_ := Aside0.mk ((by rw [hg]; exact (below_size HB.out)) : w.heap.size ≤ gbZ); have m0_ := Aside0.mk (blk_below BKB.out hb); clear HB; clear BKB; have HB := n0_; have BKZ := n1_; have GEZ := n2_; have BKB := m0_; clear n0_ n1_ n2_ m0_; clear hb hbox hg; have hczB_0 : w4.cell? ⟨gbB, 0, none⟩ = some (.int .i64 a0_0) := (blk_cell BKB.out 0).trans rfl; have hczB_1 : w4.cell? ⟨gbB, 1, none⟩ = some (.slice A0_1 l0_1.length c0_1) := (blk_cell BKB.out 1).trans rfl; have hczZ_0 : w4.cell? ⟨gbZ, 0, none⟩ = some (.int .i64 0) := (blk_cell BKZ.out 0).trans rfl; have hczZ_1 : w4.cell? ⟨gbZ, 1, none⟩ = some (.slice none 0 0) := (blk_cell BKZ.out 1).trans rfl; have hfzZ_0 := blk_frozen BKZ.out 0; have hfzZ_1 := blk_frozen BKZ.out 1) | (go_at_call 25; refine (post_Is.calls k a0_0 A0_1 c0_1 l0_1 _ w4 (Kd.C_below HR.out HB.out) HC.out IS.out).mono ?_; rintro e w5 ⟨rfl, hb⟩; have n0_ := Aside0.mk (below_step HB.out hb); have m0_ := Aside0.mk (blk_below BKB.out hb); have m1_ := Aside0.mk (blk_below BKZ.out hb); clear HB BKB BKZ; have HB := n0_; have BKB := m0_; have BKZ := m1_; clear n0_ m0_ m1_ hb; (try clear hczB_0 hczB_1 hczZ_0 hczZ_1 hfzZ_0 hfzZ_1); have hczB_0 : w5.cell? ⟨gbB, 0, none⟩ = some (.int .i64 a0_0) := (blk_cell BKB.out 0).trans rfl; have hczB_1 : w5.cell? ⟨gbB, 1, none⟩ = some (.slice A0_1 l0_1.length c0_1) := (blk_cell BKB.out 1).trans rfl; have hczZ_0 : w5.cell? ⟨gbZ, 0, none⟩ = some (.int .i64 0) := (blk_cell BKZ.out 0).trans rfl; have hczZ_1 : w5.cell? ⟨gbZ, 1, none⟩ = some (.slice none 0 0) := (blk_cell BKZ.out 1).trans rfl; have hfzZ_0 := blk_frozen BKZ.out 0; have hfzZ_1 := blk_frozen BKZ.out 1) | (go_at_call 29; refine (post_Send.who_any _ _).mono ?_; rintro e w5 ⟨rfl, hd⟩; have hb := hd.below; clear hd; have n0_ := Aside0.mk (below_step HB.out hb); have m0_ := Aside0.mk (blk_below BKB.out hb); have m1_ := Aside0.mk (blk_below BKZ.out hb); clear HB BKB BKZ; have HB := n0_; have BKB := m0_; have BKZ := m1_; clear n0_ m0_ m1_ hb; (try clear hczB_0 hczB_1 hczZ_0 hczZ_1 hfzZ_0 hfzZ_1); have hczB_0 : w5.cell? ⟨gbB, 0, none⟩ = some (.int .i64 a0_0) := (blk_cell BKB.out 0).trans rfl; have hczB_1 : w5.cell? ⟨gbB, 1, none⟩ = some (.slice A0_1 l0_1.length c0_1) := (blk_cell BKB.out 1).trans rfl; have hczZ_0 : w5.cell? ⟨gbZ, 0, none⟩ = some (.int .i64 0) := (blk_cell BKZ.out 0).trans rfl; have hczZ_1 : w5.cell? ⟨gbZ, 1, none⟩ = some (.slice none 0 0) := (blk_cell BKZ.out 1).trans rfl; have hfzZ_0 := blk_frozen BKZ.out 0; have hfzZ_1 := blk_frozen BKZ.out 1) | (go_at_call 30; refine (contfunc_S.calls (fun s => decide (2000 < (s.size : Int))) 28 #[] eg A3 c3 l3 w5 (fun W x hbw => (post_Send.long_one W x).mono (fun _ _ ⟨he, hb⟩ => ⟨he, below_then hbw hbw.size hb⟩)) (Kd.C_below HR3.out HB.out)).mono ?_; rintro e w6 ⟨rfl, hb⟩; rw [LONG.out]; have n0_ := Aside0.mk (below_step HB.out hb); have m0_ := Aside0.mk (blk_below BKB.out hb); have m1_ := Aside0.mk (blk_below BKZ.out hb); clear HB BKB BKZ; have HB := n0_; have BKB := m0_; have BKZ := m1_; clear n0_ m0_ m1_ hb; (try clear hczB_0 hczB_1 hczZ_0 hczZ_1 hfzZ_0 hfzZ_1); have hczB_0 : w6.cell? ⟨gbB, 0, none⟩ = some (.int .i64 a0_0) := (blk_cell BKB.out 0).trans rfl; have hczB_1 : w6.cell? ⟨gbB, 1, none⟩ = some (.slice A0_1 l0_1.length c0_1) := (blk_cell BKB.out 1).trans rfl; have hczZ_0 : w6.cell? ⟨gbZ, 0, none⟩ = some (.int .i64 0) := (blk_cell BKZ.out 0).trans rfl; have hczZ_1 : w6.cell? ⟨gbZ, 1, none⟩ = some (.slice none 0 0) := (blk_cell BKZ.out 1).trans rfl; have hfzZ_0 := blk_frozen BKZ.out 0; have hfzZ_1 := blk_frozen BKZ.out 1))
      refine bodyPost_ret (results_ctt rfl _ _ gbZ 24 #[.int .i64 0, .slice none 0 0] (0, 0) _ rfl (by refine blk_put (cs := #[.int .i64 0, .slice none 0 0]) ?_ 1 _ rfl; refine blk_put (cs := #[.int .i64 0, .slice none 0 0]) ?_ 0 _ rfl; exact BKZ.out) Try.underlying24 rfl (by kernel_rfl)) rfl ?_
      exact ⟨_, by first | rfl | (simp; done) | (simp [*]; done), Kd.R_nil _ _ _ _ _, by repeat (with_reducible first | exact HB.out | refine below_set ?_ GEZ.out)⟩
  obtain ⟨rfl, hw1, hw2, rfl⟩ := hgood
  rw [sendR, if_pos ⟨rfl, hw1, hw2, hLONG⟩] at h
  clear hLONG
  have hl47 : (l3.length : Int) ≤ 9223372036854775807 := by have := HR3.out.2.1; omega
  by_cases hlim : a0_0 > 1000000000 - (l3.length : Int)
  · rw [if_pos hlim] at h
    simp only [Prod.mk.injEq] at h
    obtain ⟨rfl, rfl, rfl, rfl⟩ := h
    have d1 : decide (1000000000 - (l3.length : Int) < a0_0) = true := decide_eq_true hlim
    go_enter Try.func10, Try.ntmps10
    go_wp2_with (first | ((with_reducible refine gate_dst (N := 4) rfl ?_); refine box_event ?hg (N := 4) ?hd (cs := #[.int .i64 a0_0, .slice A0_1 l0_1.length c0_1]) (t := 24) ?hr ?_; (case hd => rfl); (case hg => rfl); (case hr => first | (go_simp; done) | (go_simp; rfl)); intro gbB hg w3 hbox hb; have n0_ := Aside0.mk (below_step HB.out hb); have n1_ := Aside0.mk hbox; have n2_ := Aside0.mk ((by rw [hg]; exact (below_size HB.out)) : w.heap.size ≤ gbB); clear HB; have HB := n0_; have BKB := n1_; have GEB := n2_; clear n0_ n1_ n2_; clear hb hbox hg) | ((with_reducible refine gate_dst (N := 8) rfl ?_); refine box_event ?hg (N := 8) ?hd (cs := #[.int .i64 0, .slice none 0 0]) (t := 24) ?hr ?_; (case hd => rfl); (case hg => rfl); (case hr => first | (go_simp; done) | (go_simp; rfl)); intro gbZ hg w4 hbox hb; have NEZ := Aside0.mk (show gbZ ≠ gbB from by rw [hg]; exact Nat.ne_of_gt (blk_lt BKB.out)); have n0_ := Aside0.mk (below_step HB.out hb); have n1_ := Aside0.mk hbox; have n2_ := Aside0.mk ((by rw [hg]; exact (below_size HB.out)) : w.heap.size ≤ gbZ); have m0_ := Aside0.mk (blk_below BKB.out hb); clear HB; clear BKB; have HB := n0_; have BKZ := n1_; have GEZ := n2_; have BKB := m0_; clear n0_ n1_ n2_ m0_; clear hb hbox hg; have hczB_0 : w4.cell? ⟨gbB, 0, none⟩ = some (.int .i64 a0_0) := (blk_cell BKB.out 0).trans rfl; have hczB_1 : w4.cell? ⟨gbB, 1, none⟩ = some (.slice A0_1 l0_1.length c0_1) := (blk_cell BKB.out 1).trans rfl; have hczZ_0 : w4.cell? ⟨gbZ, 0, none⟩ = some (.int .i64 0) := (blk_cell BKZ.out 0).trans rfl; have hczZ_1 : w4.cell? ⟨gbZ, 1, none⟩ = some (.slice none 0 0) := (blk_cell BKZ.out 1).trans rfl; have hfzZ_0 := blk_frozen BKZ.out 0; have hfzZ_1 := blk_frozen BKZ.out 1) | (go_at_call 25; refine (post_Is.calls k a0_0 A0_1 c0_1 l0_1 _ w4 (Kd.C_below HR.out HB.out) HC.out IS.out).mono ?_; rintro e w5 ⟨rfl, hb⟩; have n0_ := Aside0.mk (below_step HB.out hb); have m0_ := Aside0.mk (blk_below BKB.out hb); have m1_ := Aside0.mk (blk_below BKZ.out hb); clear HB BKB BKZ; have HB := n0_; have BKB := m0_; have BKZ := m1_; clear n0_ m0_ m1_ hb; (try clear hczB_0 hczB_1 hczZ_0 hczZ_1 hfzZ_0 hfzZ_1); have hczB_0 : w5.cell? ⟨gbB, 0, none⟩ = some (.int .i64 a0_0) := (blk_cell BKB.out 0).trans rfl; have hczB_1 : w5.cell? ⟨gbB, 1, none⟩ = some (.slice A0_1 l0_1.length c0_1) := (blk_cell BKB.out 1).trans rfl; have hczZ_0 : w5.cell? ⟨gbZ, 0, none⟩ = some (.int .i64 0) := (blk_cell BKZ.out 0).trans rfl; have hczZ_1 : w5.cell? ⟨gbZ, 1, none⟩ = some (.slice none 0 0) := (blk_cell BKZ.out 1).trans rfl; have hfzZ_0 := blk_frozen BKZ.out 0; have hfzZ_1 := blk_frozen BKZ.out 1) | (go_at_call 29; refine (post_Send.who_any _ _).mono ?_; rintro e w5 ⟨rfl, hd⟩; have hb := hd.below; clear hd; have n0_ := Aside0.mk (below_step HB.out hb); have m0_ := Aside0.mk (blk_below BKB.out hb); have m1_ := Aside0.mk (blk_below BKZ.out hb); clear HB BKB BKZ; have HB := n0_; have BKB := m0_; have BKZ := m1_; clear n0_ m0_ m1_ hb; (try clear hczB_0 hczB_1 hczZ_0 hczZ_1 hfzZ_0 hfzZ_1); have hczB_0 : w5.cell? ⟨gbB, 0, none⟩ = some (.int .i64 a0_0) := (blk_cell BKB.out 0).trans rfl; have hczB_1 : w5.cell? ⟨gbB, 1, none⟩ = some (.slice A0_1 l0_1.length c0_1) := (blk_cell BKB.out 1).trans rfl; have hczZ_0 : w5.cell? ⟨gbZ, 0, none⟩ = some (.int .i64 0) := (blk_cell BKZ.out 0).trans rfl; have hczZ_1 : w5.cell? ⟨gbZ, 1, none⟩ = some (.slice none 0 0) := (blk_cell BKZ.out 1).trans rfl; have hfzZ_0 := blk_frozen BKZ.out 0; have hfzZ_1 := blk_frozen BKZ.out 1) | (go_at_call 30; refine (contfunc_S.calls (fun s => decide (2000 < (s.size : Int))) 28 #[] eg A3 c3 l3 w5 (fun W x hbw => (post_Send.long_one W x).mono (fun _ _ ⟨he, hb⟩ => ⟨he, below_then hbw hbw.size hb⟩)) (Kd.C_below HR3.out HB.out)).mono ?_; rintro e w6 ⟨rfl, hb⟩; rw [LONG.out]; have n0_ := Aside0.mk (below_step HB.out hb); have m0_ := Aside0.mk (blk_below BKB.out hb); have m1_ := Aside0.mk (blk_below BKZ.out hb); clear HB BKB BKZ; have HB := n0_; have BKB := m0_; have BKZ := m1_; clear n0_ m0_ m1_ hb; (try clear hczB_0 hczB_1 hczZ_0 hczZ_1 hfzZ_0 hfzZ_1); have hczB_0 : w6.cell? ⟨gbB, 0, none⟩ = some (.int .i64 a0_0) := (blk_cell BKB.out 0).trans rfl; have hczB_1 : w6.cell? ⟨gbB, 1, none⟩ = some (.slice A0_1 l0_1.length c0_1) := (blk_cell BKB.out 1).trans rfl; have hczZ_0 : w6.cell? ⟨gbZ, 0, none⟩ = some (.int .i64 0) := (blk_cell BKZ.out 0).trans rfl; have hczZ_1 : w6.cell? ⟨gbZ, 1, none⟩ = some (.slice none 0 0) := (blk_cell BKZ.out 1).trans rfl; have hfzZ_0 := blk_frozen BKZ.out 0; have hfzZ_1 := blk_frozen BKZ.out 1))
    refine bodyPost_ret (results_ctt rfl _ _ gbZ 24 #[.int .i64 0, .slice none 0 0] (0, 0) _ rfl (by refine blk_put (cs := #[.int .i64 0, .slice none 0 0]) ?_ 1 _ rfl; refine blk_put (cs := #[.int .i64 0, .slice none 0 0]) ?_ 0 _ rfl; exact BKZ.out) Try.underlying24 rfl (by kernel_rfl)) rfl ?_
    exact ⟨_, by first | rfl | (simp; done) | (simp [*]; done), Kd.R_nil _ _ _ _ _, by repeat (with_reducible first | exact HB.out | refine below_set ?_ GEZ.out)⟩
  · rw [if_neg hlim] at h
    simp only [Prod.mk.injEq] at h
    obtain ⟨rfl, rfl, rfl, rfl⟩ := h
    have d1 : decide (1000000000 - (l3.length : Int) < a0_0) = false := decide_eq_false hlim
    clear hlim
    go_enter Try.func10, Try.ntmps10
    go_wp2_with (first | ((with_reducible refine gate_dst (N := 4) rfl ?_); refine box_event ?hg (N := 4) ?hd (cs := #[.int .i64 a0_0, .slice A0_1 l0_1.length c0_1]) (t := 24) ?hr ?_; (case hd => rfl); (case hg => rfl); (case hr => first | (go_simp; done) | (go_simp; rfl)); intro gbB hg w3 hbox hb; have n0_ := Aside0.mk (below_step HB.out hb); have n1_ := Aside0.mk hbox; have n2_ := Aside0.mk ((by rw [hg]; exact (below_size HB.out)) : w.heap.size ≤ gbB); clear HB; have HB := n0_; have BKB := n1_; have GEB := n2_; clear n0_ n1_ n2_; clear hb hbox hg) | ((with_reducible refine gate_dst (N := 8) rfl ?_); refine box_event ?hg (N := 8) ?hd (cs := #[.int .i64 0, .slice none 0 0]) (t := 24) ?hr ?_; (case hd => rfl); (case hg => rfl); (case hr => first | (go_simp; done) | (go_simp; rfl)); intro gbZ hg w4 hbox hb; have NEZ := Aside0.mk (show gbZ ≠ gbB from by rw [hg]; exact Nat.ne_of_gt (blk_lt BKB.out)); have n0_ := Aside0.mk (below_step HB.out hb); have n1_ := Aside0.mk hbox; have n2_ := Aside0.mk ((by rw [hg]; exact (below_size HB.out)) : w.heap.size ≤ gbZ); have m0_ := Aside0.mk (blk_below BKB.out hb); clear HB; clear BKB; have HB := n0_; have BKZ := n1_; have GEZ := n2_; have BKB := m0_; clear n0_ n1_ n2_ m0_; clear hb hbox hg; have hczB_0 : w4.cell? ⟨gbB, 0, none⟩ = some (.int .i64 a0_0) := (blk_cell BKB.out 0).trans rfl; have hczB_1 : w4.cell? ⟨gbB, 1, none⟩ = some (.slice A0_1 l0_1.length c0_1) := (blk_cell BKB.out 1).trans rfl; have hczZ_0 : w4.cell? ⟨gbZ, 0, none⟩ = some (.int .i64 0) := (blk_cell BKZ.out 0).trans rfl; have hczZ_1 : w4.cell? ⟨gbZ, 1, none⟩ = some (.slice none 0 0) := (blk_cell BKZ.out 1).trans rfl; have hfzZ_0 := blk_frozen BKZ.out 0; have hfzZ_1 := blk_frozen BKZ.out 1) | (go_at_call 25; refine (post_Is.calls k a0_0 A0_1 c0_1 l0_1 _ w4 (Kd.C_below HR.out HB.out) HC.out IS.out).mono ?_; rintro e w5 ⟨rfl, hb⟩; have n0_ := Aside0.mk (below_step HB.out hb); have m0_ := Aside0.mk (blk_below BKB.out hb); have m1_ := Aside0.mk (blk_below BKZ.out hb); clear HB BKB BKZ; have HB := n0_; have BKB := m0_; have BKZ := m1_; clear n0_ m0_ m1_ hb; (try clear hczB_0 hczB_1 hczZ_0 hczZ_1 hfzZ_0 hfzZ_1); have hczB_0 : w5.cell? ⟨gbB, 0, none⟩ = some (.int .i64 a0_0) := (blk_cell BKB.out 0).trans rfl; have hczB_1 : w5.cell? ⟨gbB, 1, none⟩ = some (.slice A0_1 l0_1.length c0_1) := (blk_cell BKB.out 1).trans rfl; have hczZ_0 : w5.cell? ⟨gbZ, 0, none⟩ = some (.int .i64 0) := (blk_cell BKZ.out 0).trans rfl; have hczZ_1 : w5.cell? ⟨gbZ, 1, none⟩ = some (.slice none 0 0) := (blk_cell BKZ.out 1).trans rfl; have hfzZ_0 := blk_frozen BKZ.out 0; have hfzZ_1 := blk_frozen BKZ.out 1) | (go_at_call 29; refine (post_Send.who_any _ _).mono ?_; rintro e w5 ⟨rfl, hd⟩; have hb := hd.below; clear hd; have n0_ := Aside0.mk (below_step HB.out hb); have m0_ := Aside0.mk (blk_below BKB.out hb); have m1_ := Aside0.mk (blk_below BKZ.out hb); clear HB BKB BKZ; have HB := n0_; have BKB := m0_; have BKZ := m1_; clear n0_ m0_ m1_ hb; (try clear hczB_0 hczB_1 hczZ_0 hczZ_1 hfzZ_0 hfzZ_1); have hczB_0 : w5.cell? ⟨gbB, 0, none⟩ = some (.int .i64 a0_0) := (blk_cell BKB.out 0).trans rfl; have hczB_1 : w5.cell? ⟨gbB, 1, none⟩ = some (.slice A0_1 l0_1.length c0_1) := (blk_cell BKB.out 1).trans rfl; have hczZ_0 : w5.cell? ⟨gbZ, 0, none⟩ = some (.int .i64 0) := (blk_cell BKZ.out 0).trans rfl; have hczZ_1 : w5.cell? ⟨gbZ, 1, none⟩ = some (.slice none 0 0) := (blk_cell BKZ.out 1).trans rfl; have hfzZ_0 := blk_frozen BKZ.out 0; have hfzZ_1 := blk_frozen BKZ.out 1) | (go_at_call 30; refine (contfunc_S.calls (fun s => decide (2000 < (s.size : Int))) 28 #[] eg A3 c3 l3 w5 (fun W x hbw => (post_Send.long_one W x).mono (fun _ _ ⟨he, hb⟩ => ⟨he, below_then hbw hbw.size hb⟩)) (Kd.C_below HR3.out HB.out)).mono ?_; rintro e w6 ⟨rfl, hb⟩; rw [LONG.out]; have n0_ := Aside0.mk (below_step HB.out hb); have m0_ := Aside0.mk (blk_below BKB.out hb); have m1_ := Aside0.mk (blk_below BKZ.out hb); clear HB BKB BKZ; have HB := n0_; have BKB := m0_; have BKZ := m1_; clear n0_ m0_ m1_ hb; (try clear hczB_0 hczB_1 hczZ_0 hczZ_1 hfzZ_0 hfzZ_1); have hczB_0 : w6.cell? ⟨gbB, 0, none⟩ = some (.int .i64 a0_0) := (blk_cell BKB.out 0).trans rfl; have hczB_1 : w6.cell? ⟨gbB, 1, none⟩ = some (.slice A0_1 l0_1.length c0_1) := (blk_cell BKB.out 1).trans rfl; have hczZ_0 : w6.cell? ⟨gbZ, 0, none⟩ = some (.int .i64 0) := (blk_cell BKZ.out 0).trans rfl; have hczZ_1 : w6.cell? ⟨gbZ, 1, none⟩ = some (.slice none 0 0) := (blk_cell BKZ.out 1).trans rfl; have hfzZ_0 := blk_frozen BKZ.out 0; have hfzZ_1 := blk_frozen BKZ.out 1) | (go_at_call 31; refine (api_Letter_31.calls A0_1 c0_1 l0_1 l0_1 w6 (Kd.C_below HR.out HB.out) HC.out (by unfold api_Letter_31.f; rw [if_pos (by have := LM.out; omega)])).mono ?_; rintro e w7 ⟨v7, rfl, ho, hb⟩; have BS := Aside0.mk (Kd.R_bound ho); have NS := Aside0.mk hb.size; have NB := Aside0.mk (blk_lt BKB.out); have NZ := Aside0.mk (blk_lt BKZ.out); have NW := Aside0.mk (below_size HB.out); clear ho; obtain ⟨A7, c7, rfl⟩ := Kd.R_slice BS.out; have hfzB_1 : w7.frozen? ⟨gbB, 1, none⟩ = false := blk_frozen (blk_below BKB.out hb) 1; have n0_ := Aside0.mk (below_step HB.out hb); have m0_ := Aside0.mk (blk_below BKB.out hb); have m1_ := Aside0.mk (blk_below BKZ.out hb); clear HB BKB BKZ; have HB := n0_; have BKB := m0_; have BKZ := m1_; clear n0_ m0_ m1_ hb; (try clear hczB_0 hczB_1 hczZ_0 hczZ_1 hfzZ_0 hfzZ_1); have hczB_0 : w7.cell? ⟨gbB, 0, none⟩ = some (.int .i64 a0_0) := (blk_cell BKB.out 0).trans rfl; have hczB_1 : w7.cell? ⟨gbB, 1, none⟩ = some (.slice A0_1 l0_1.length c0_1) := (blk_cell BKB.out 1).trans rfl; have hczZ_0 : w7.cell? ⟨gbZ, 0, none⟩ = some (.int .i64 0) := (blk_cell BKZ.out 0).trans rfl; have hczZ_1 : w7.cell? ⟨gbZ, 1, none⟩ = some (.slice none 0 0) := (blk_cell BKZ.out 1).trans rfl; have hfzZ_0 := blk_frozen BKZ.out 0; have hfzZ_1 := blk_frozen BKZ.out 1))
    clear hczB_0 hczB_1 hczZ_0 hczZ_1 hfzZ_0 hfzZ_1 hfzB_1 d1 hw1 hw2 IS LONG eg
    have RS := Aside0.mk (Kd.R_mono BS.out (fun _ hk => hk.2.1) : Kd.R k35 35 w7 w6.heap.size (fun k_ => w6.heap.size ≤ k_) (.slice A7 l0_1.length c7) l0_1)
    clear BS
    have hWI : ∃ Rel : Value → Value → World → Prop, Rel = (fun t12 t49 wr => ∃ (i : Nat) (n lost : Int) (l : List S35) (A : Option Addr) (c : Nat), i ≤ l3.length ∧ t49 = .int .i64 (i : Int) ∧ t12 = .int .i64 lost ∧ wr.heap[gbB]? = some (.cells #[.int .i64 n, .slice A l.length c] 24 (0, 0)) ∧ Kd.R k35 35 wr w6.heap.size (fun k_ => w6.heap.size ≤ k_) (.slice A l.length c) l ∧ wr.heap[gbZ]? = some (.cells #[.int .i64 0, .slice none 0 0] 24 (0, 0)) ∧ Below w.heap.size w wr ∧ w6.heap.size ≤ wr.heap.size ∧ l.length < 1099511627776 ∧ sendL a1 a2 n l lost (l3.drop i) = sendL a1 a2 a0_0 l0_1 0 l3) := ⟨_, rfl⟩
    obtain ⟨Rel, hRel⟩ := hWI
    have RL := Aside0.mk hRel
    clear hRel
    go_loopw [12, 49] (fun t12 t49 wr => Rel t12 t49 wr ∧ ∃ i : Nat, t49 = .int .i64 (i : Int)) (fun _ t49 _ => l3.length - (intOf t49).toNat)
    case atStart =>
      refine ⟨?_, 0, rfl⟩
      rw [RL.out]
      have hNB := NB.out
      have hNZ := NZ.out
      exact ⟨0, a0_0, 0, l0_1, A7, c7, Nat.zero_le _, rfl, rfl, blk_put BKB.out 1 _ rfl, Kd.R_far RS.out (p := ⟨gbB, 1, none⟩) (fun k_ hk => by show k_ ≠ gbB; omega) _, blk_far BKZ.out NEZ.out _, below_set HB.out GEB.out, Nat.le_trans NS.out (KeepsWalks.setCell _ _ _).size, LM.out, by rw [List.drop_zero]⟩
    case round =>
      clear BKB BKZ HB RS
      obtain ⟨hrel, _⟩ := hrel
      rw [RL.out] at hrel
      obtain ⟨i, n, lost, l, A, c, hi, rfl, rfl, hb, hr, hz, hbel, hsz, hll, hsend⟩ := hrel
      have X1 := Aside0.mk hb
      have X2 := Aside0.mk hr
      have X3 := Aside0.mk hz
      have X4 := Aside0.mk hbel
      have X5 := Aside0.mk hsz
      have X6 := Aside0.mk hll
      have hzB_0 : wr.cell? ⟨gbB, 0, none⟩ = some (.int .i64 n) := (blk_cell hb 0).trans rfl
      have hzB_1 : wr.cell? ⟨gbB, 1, none⟩ = some (.slice A l.length c) := (blk_cell hb 1).trans rfl
      have hzZ_0 : wr.cell? ⟨gbZ, 0, none⟩ = some (.int .i64 0) := (blk_cell hz 0).trans rfl
      have hzZ_1 : wr.cell? ⟨gbZ, 1, none⟩ = some (.slice none 0 0) := (blk_cell hz 1).trans rfl
      have hfZ_0 := blk_frozen hz 0
      have hfZ_1 := blk_frozen hz 1
      by_cases hlt : i < l3.length
      · obtain ⟨ad3, e3, hs3⟩ := Kd.at_string (Kd.C_below HR3.out hbel) (i : Int) (by omega) (by omega)
        cases e3
        rw [Int.toNat_natCast] at hs3
        have hdr : l3.drop i = rdOf ByteArray.empty l3 (i : Int) :: l3.drop (i + 1) := by
          rw [List.drop_eq_getElem_cons hlt]
          congr 1
          simp [rdOf, List.getD_eq_getElem?_getD, List.getElem?_eq_getElem hlt]
        rw [hdr, sendL] at hsend
        generalize rdOf ByteArray.empty l3 (i : Int) = s at hs3 hsend
        clear hdr
        have hltz : (i : Int) < (l3.length : Int) := by omega
        have r1 := roomL_len a2 l
        have SE := Aside0.mk hsend
        clear hb hr hz hbel hsz hll hsend hzZ_0 hzZ_1 hfZ_0 hfZ_1
        have HROOM := Aside0.mk (post_room.calls gbB n (.slice A l.length c) l a2 (fun k_ => w6.heap.size ≤ k_) w6.heap.size w.heap.size wr X1.out X2.out X6.out NW.out GEB.out X5.out (fun k_ hk => by have := NB.out; omega) (fun k_ hk => Nat.le_trans X5.out hk))
        by_cases h200 : (roomL a2 l).length < 200
        · have d1 : decide (((roomL a2 l).length : Int) < 200) = true := decide_eq_true (by omega)
          have SE2 := SE.out
          rw [if_pos h200] at SE2
          have SE3 := Aside0.mk SE2
          have R2 := Aside0.mk h200
          clear SE SE2 r1
          go_wp2_with (first | (go_at_call 32; refine HROOM.out.mono ?_; rintro e w8 ⟨rfl, v8, hb8, hR8, hB8, hK8⟩; obtain ⟨A8, c8, rfl⟩ := Kd.R_slice hR8; have Y1 := Aside0.mk hb8; have Y2 := Aside0.mk hR8; have Y3 := Aside0.mk ((hK8 gbZ (Nat.lt_of_lt_of_le NZ.out X5.out) NEZ.out (Nat.not_le.2 NZ.out)).trans X3.out); have Y4 := Aside0.mk (X4.out.trans hB8); have Y5 := Aside0.mk (Nat.le_trans X5.out hB8.size); have hyB_0 : w8.cell? ⟨gbB, 0, none⟩ = some (.int .i64 n) := (blk_cell hb8 0).trans rfl; have hyB_1 : w8.cell? ⟨gbB, 1, none⟩ = some (.slice A8 (roomL a2 l).length c8) := (blk_cell hb8 1).trans rfl; have hyF_0 := blk_frozen hb8 0; clear hb8 hR8 hB8 hK8 hzB_0 hzB_1 HROOM) | ((with_reducible refine gate_builtin (b := .append) (xs := #[.tmp 62, .tmp 69]) rfl ?_); at_builtin; refine Kd.R_append k35 (w0 := w8) w6.heap.size rfl (.tmp 62) (.tmp 69) 22 35 (.agg #[.int .i64 0, .int .i64 0, .int .i64 0, .string ⟨#[]⟩]) 40 rfl Try.underlying22 info35 rfl (by decide) (by omega) (.slice A8 (roomL a2 l).length c8) (roomL a2 l) ⟨n, a1, a2, s⟩ [.int .i64 n, .int .i64 a1, .int .i64 a2, .string s] (fun k_ => w6.heap.size ≤ k_) (fun _ => False) rfl rfl (k35_mkM _ _ _ _) (fun _ h => h.elim) (fun k_ hk => Nat.le_trans Y5.out hk) Y2.out (Below.refl _ _) Y5.out (by omega) ?_; intro v9 w9 ho hb hg hat; have hne : ∀ q_, q_ < w6.heap.size → some q_ ≠ (Value.slice A8 (roomL a2 l).length c8).ownBlock := fun q_ hq he => Nat.lt_irrefl _ (Nat.lt_of_lt_of_le hq (Y2.out.1 q_ he.symm)); obtain ⟨A9, c9, e9⟩ := Kd.R_slice ho; rw [List.length_append, List.length_singleton] at e9; subst e9; have U1 := Aside0.mk (blk_grown Y1.out hg (hne gbB NB.out)); have U2 := Aside0.mk ho; have U3 := Aside0.mk (blk_grown Y3.out hg (hne gbZ NZ.out)); have U4 := Aside0.mk (Y4.out.trans (hb.mono NW.out)); have U5 := Aside0.mk (Nat.le_trans Y5.out hb.size); have huB_0 : w9.cell? ⟨gbB, 0, none⟩ = some (.int .i64 n) := (blk_cell U1.out 0).trans rfl; have huB_1 : w9.cell? ⟨gbB, 1, none⟩ = some (.slice A8 (roomL a2 l).length c8) := (blk_cell U1.out 1).trans rfl; have huF_0 := blk_frozen U1.out 0; have huF_1 := blk_frozen U1.out 1; clear ho hb hg hat hne hyB_0 hyB_1 hyF_0))
          go_roundw
          case rel =>
            refine ⟨?_, i + 1, by go_num⟩
            rw [RL.out]
            have hNB := NB.out
            have hNZ := NZ.out
            exact ⟨i + 1, wrap64 (n + 1), wrap64 (lost + (roomN a2 l : Int)), roomL a2 l ++ [⟨n, a1, a2, s⟩], A9, c9, by omega, by go_num, rfl, by rw [List.length_append, List.length_singleton]; exact blk_put (cs := #[.int .i64 n, .slice A9 ((roomL a2 l).length + 1) c9]) (blk_put U1.out 1 _ rfl) 0 _ rfl, by rw [List.length_append, List.length_singleton]; exact Kd.R_far (p := ⟨gbB, 0, none⟩) (Kd.R_far U2.out (p := ⟨gbB, 1, none⟩) (fun k_ hk => by show k_ ≠ gbB; omega) _) (fun k_ hk => by show k_ ≠ gbB; omega) _, blk_far (blk_far U3.out NEZ.out _) NEZ.out _, below_set (below_set U4.out GEB.out) GEB.out, Nat.le_trans U5.out ((KeepsWalks.setCell _ _ _).trans (KeepsWalks.setCell _ _ _)).size, by rw [List.length_append, List.length_singleton]; have := R2.out; omega, SE3.out⟩
          case measure => simp [intOf]; omega
        · have d1 : decide (((roomL a2 l).length : Int) < 200) = false := decide_eq_false (by omega)
          have SE2 := SE.out
          rw [if_neg h200] at SE2
          have SE3 := Aside0.mk SE2
          have R1 := Aside0.mk r1
          clear SE SE2 r1
          go_wp2_with (first | (go_at_call 32; refine HROOM.out.mono ?_; rintro e w8 ⟨rfl, v8, hb8, hR8, hB8, hK8⟩; obtain ⟨A8, c8, rfl⟩ := Kd.R_slice hR8; have Y1 := Aside0.mk hb8; have Y2 := Aside0.mk hR8; have Y3 := Aside0.mk ((hK8 gbZ (Nat.lt_of_lt_of_le NZ.out X5.out) NEZ.out (Nat.not_le.2 NZ.out)).trans X3.out); have Y4 := Aside0.mk (X4.out.trans hB8); have Y5 := Aside0.mk (Nat.le_trans X5.out hB8.size); have hyB_0 : w8.cell? ⟨gbB, 0, none⟩ = some (.int .i64 n) := (blk_cell hb8 0).trans rfl; have hyB_1 : w8.cell? ⟨gbB, 1, none⟩ = some (.slice A8 (roomL a2 l).length c8) := (blk_cell hb8 1).trans rfl; have hyF_0 := blk_frozen hb8 0; clear hb8 hR8 hB8 hK8 hzB_0 hzB_1 HROOM))
          go_roundw
          case rel =>
            refine ⟨?_, i + 1, by go_num⟩
            rw [RL.out]
            have hNB := NB.out
            have hNZ := NZ.out
            exact ⟨i + 1, wrap64 (n + 1), wrap64 (wrap64 (lost + (roomN a2 l : Int)) + 1), roomL a2 l, A8, c8, by omega, by go_num, rfl, blk_put Y1.out 0 _ rfl, Kd.R_far Y2.out (p := ⟨gbB, 0, none⟩) (fun k_ hk => by show k_ ≠ gbB; omega) _, blk_far Y3.out NEZ.out _, below_set Y4.out GEB.out, Nat.le_trans Y5.out (KeepsWalks.setCell _ _ _).size, by have := R1.out; have := X6.out; omega, SE3.out⟩
          case measure => simp [intOf]; omega
      · have hltz : ¬ (i : Int) < (l3.length : Int) := by omega
        rw [List.drop_eq_nil_of_le (by omega), sendL] at hsend
        have SE := Aside0.mk hsend
        clear hb hr hz hbel hsz hll hsend
        go_wp2
        refine bodyPost_ret (results_ctt rfl _ _ gbZ 24 #[.int .i64 n, .slice A l.length c] (0, 0) _ rfl (by refine blk_put (cs := #[.int .i64 n, .slice none 0 0]) ?_ 1 _ rfl; refine blk_put (cs := #[.int .i64 0, .slice none 0 0]) ?_ 0 _ rfl; exact X3.out) Try.underlying24 rfl (by kernel_rfl)) rfl ?_
        have hNZ := NZ.out
        rw [← SE.out]
        exact ⟨_, rfl, Kd.R_mono (Kd.R_lower (Kd.R_far (p := ⟨gbZ, 1, none⟩) (Kd.R_far X2.out (p := ⟨gbZ, 0, none⟩) (fun k_ hk => by show k_ ≠ gbZ; omega) _) (fun k_ hk => by show k_ ≠ gbZ; omega) _) NW.out) (fun _ _ => trivial), below_set (below_set X4.out GEZ.out) GEZ.out⟩

/-! ### post_Again: function 15 -/
def post_Again.f (k : Nat) (a0_0 : Int) (l0_1 : List (S35)) (a1 : Int) : Option (Int × (List (S35)) × Int × Int) := (post_find.f k a0_0 l0_1 a1).bind fun bt129 => (if bt129.2 = 0 then (if 0 ≤ bt129.1 then (if bt129.1 < (l0_1.length : Int) then ((post_Send.f k a0_0 l0_1 ((rd_T35 l0_1 bt129.1).f1) ((rd_T35 l0_1 bt129.1).f2) (([(rd_T35 l0_1 bt129.1).f3] : List ByteArray))).bind fun bt136 => (some (bt136.1, bt136.2.1, bt136.2.2.1, bt136.2.2.2))) else (none)) else (none)) else (some (0, ([] : List (S35)), 0, bt129.2)))
theorem post_Again.mono : ∀ a0 a1 a2 k, LeO (post_Again.f k a0 a1 a2) (post_Again.f (k + 1) a0 a1 a2) := by
  intro a0 a1 a2 k
  unfold post_Again.f
  repeat' first
      | (with_reducible exact post_Send.mono _ _ _ _ _ _)
      | (with_reducible exact post_find.mono _ _ _ _)
      | (with_reducible exact LeO.refl _)
      | (with_reducible exact LeO.none _)
      | (with_reducible refine LeO.ite ?_ ?_)
      | (with_reducible refine LeO.bind ?_ (fun _ => ?_))
      | exact post_Send.mono _ _ _ _ _ _
      | exact post_find.mono _ _ _ _
      | exact LeO.none _
      | refine LeO.ite ?_ ?_
      | refine LeO.bind ?_ (fun _ => ?_)
set_option maxHeartbeats 8000000 in
set_option maxRecDepth 100000 in
theorem post_Again.calls (k : Nat) (a0_0 : Int) (A0_1 : Option Addr) (c0_1 : Nat) (l0_1 : List (S35)) (a1 : Int) (r1 : Int) (r2 : List (S35)) (r3 : Int) (r4 : Int) (w : World) (hr0_1 : Kd.C k35 w A0_1 l0_1.length l0_1) (hc0_1 : l0_1.length ≤ c0_1) (h : post_Again.f k a0_0 l0_1 a1 = some (r1, r2, r3, r4)) :
    Calls Try.prog 15 #[.agg #[.int .i64 a0_0, .slice A0_1 l0_1.length c0_1], .int .i64 a1] w fun e w' => ∃ v1_ : Value, e = .returned (.tuple #[.agg #[.int .i64 r1, v1_], .int .i64 r3, .int .i64 r4]) ∧ Kd.R k35 35 w' w.heap.size (fun _ => True) v1_ r2 ∧ Below w.heap.size w w' := by
  have hu24 := Try.underlying24
  have hu35 := Try.underlying35
  have HR0_1 := Aside0.mk hr0_1
  have HC0_1 := Aside0.mk hc0_1
  clear hr0_1 hc0_1
  have HB := Aside0.mk (Below.refl w.heap.size w)
  have H : ((post_find.f k a0_0 l0_1 a1).bind fun bt129 => (if bt129.2 = 0 then (if 0 ≤ bt129.1 then (if bt129.1 < (l0_1.length : Int) then ((post_Send.f k a0_0 l0_1 ((rd_T35 l0_1 bt129.1).f1) ((rd_T35 l0_1 bt129.1).f2) (([(rd_T35 l0_1 bt129.1).f3] : List ByteArray))).bind fun bt136 => (some (bt136.1, bt136.2.1, bt136.2.2.1, bt136.2.2.2))) else (none)) else (none)) else (some (0, ([] : List (S35)), 0, bt129.2)))) = some (r1, r2, r3, r4) := h
  clear h
  replace H := Option.bind_eq_some_iff.mp H
  obtain ⟨⟨t129, t130⟩, A30, H⟩ := H
  replace H : (if t130 = 0 then (if 0 ≤ t129 then (if t129 < (l0_1.length : Int) then ((post_Send.f k a0_0 l0_1 ((rd_T35 l0_1 t129).f1) ((rd_T35 l0_1 t129).f2) (([(rd_T35 l0_1 t129).f3] : List ByteArray))).bind fun bt136 => (some (bt136.1, bt136.2.1, bt136.2.2.1, bt136.2.2.2))) else (none)) else (none)) else (some (0, ([] : List (S35)), 0, t130))) = some (r1, r2, r3, r4) := H
  have A3 := Aside0.mk A30
  clear A30
  by_cases c4 : t130 = 0
  · rw [if_pos c4] at H
    have c4b0 : (t130 == 0) = true := beq_iff_eq.mpr c4
    have c4b1 : (t130 != 0) = false := bne_eq_false_iff_eq.mpr c4
    clear c4
    by_cases c5 : 0 ≤ t129
    · rw [if_pos c5] at H
      have c5b0 : decide (0 ≤ t129) = true := decide_eq_true c5
      clear c5
      by_cases c6 : t129 < (l0_1.length : Int)
      · rw [if_pos c6] at H
        have c6b0 : decide (t129 < (l0_1.length : Int)) = true := decide_eq_true c6
        clear c6
        obtain ⟨y133, hy133⟩ : ∃ y_ : List ByteArray, y_ = (([(rd_T35 l0_1 t129).f3] : List ByteArray)) := ⟨_, rfl⟩
        replace H : ((post_Send.f k a0_0 l0_1 ((rd_T35 l0_1 t129).f1) ((rd_T35 l0_1 t129).f2) y133).bind fun bt136 => (some (bt136.1, bt136.2.1, bt136.2.2.1, bt136.2.2.2))) = some (r1, r2, r3, r4) := by first | (rw [hy133]; with_reducible exact H) | (have H2_ := (Option.bind_some _ _).symm.trans H; rw [hy133]; with_reducible exact H2_) | (have H2_ := (Option.bind_some _ _).symm.trans H; with_reducible exact H2_) | with_reducible exact H | (rw [hy133]; exact H) | exact H
        have Ny133 := Aside0.mk hy133
        clear hy133
        replace H := Option.bind_eq_some_iff.mp H
        obtain ⟨⟨t136, t137, t140, t141⟩, A70, H⟩ := H
        replace H : (some (t136, t137, t140, t141)) = some (r1, r2, r3, r4) := H
        have A7 := Aside0.mk A70
        clear A70
        simp only [Option.some.injEq, Prod.mk.injEq] at H
        obtain ⟨rfl, rfl, rfl, rfl⟩ := H
        go_enter Try.func15, Try.ntmps15
        go_wp2_with (first | ((with_reducible refine gate_dst (N := 2) rfl ?_); refine box_event ?hg (N := 2) ?hd (cs := #[.int .i64 a0_0, .slice A0_1 l0_1.length c0_1]) (t := 24) ?hr ?_; (case hd => rfl); (case hg => rfl); (case hr => first | (go_simp; done) | (go_simp; rfl)); intro gb127 hg w8 hbox hb; have n0_ := Aside0.mk (below_step HB.out hb); have n1_ := Aside0.mk (hbox); have n2_ := Aside0.mk ((by rw [hg]; exact (below_size HB.out) : w.heap.size ≤ gb127)); have n3_ := Aside0.mk ((by rw [hg]; exact (below_size HB.out) : w.heap.size ≤ gb127)); clear HB; have HB := n0_; have BK127 := n1_; have GW127 := n2_; have GE127 := n3_; clear n0_ n1_ n2_ n3_; clear hb hbox hg) | ((with_reducible refine gate_dst (N := 4) rfl ?_); refine box_event ?hg (N := 4) ?hd (cs := #[.int .i64 0, .slice none 0 0]) (t := 24) ?hr ?_; (case hd => rfl); (case hg => rfl); (case hr => first | (go_simp; done) | (go_simp; rfl)); intro gb128 hg w9 hbox hb; have n0_ := Aside0.mk (blk_below BK127.out hb); have n1_ := Aside0.mk (below_step (by repeat (with_reducible first | exact HB.out | apply pw_below_drewN | apply below_drew1 | refine below_set ?_ GE127.out)) hb); have n2_ := Aside0.mk (hbox); have n3_ := Aside0.mk ((by rw [hg]; exact (below_size (by repeat (with_reducible first | exact HB.out | apply pw_below_drewN | apply below_drew1 | refine below_set ?_ GE127.out))) : w.heap.size ≤ gb128)); have n4_ := Aside0.mk ((by rw [hg]; exact (below_size (by repeat (with_reducible first | exact HB.out | apply pw_below_drewN | apply below_drew1 | refine below_set ?_ GE127.out))) : w.heap.size ≤ gb128)); have n5_ := Aside0.mk ((by rw [hg]; exact Nat.ne_of_lt (blk_lt BK127.out) : gb127 ≠ gb128)); have n6_ := Aside0.mk ((by rw [hg]; exact Nat.ne_of_gt (blk_lt BK127.out) : gb128 ≠ gb127)); clear BK127; clear HB; have BK127 := n0_; have HB := n1_; have BK128 := n2_; have GW128 := n3_; have GE128 := n4_; have NB127_128 := n5_; have NB128_127 := n6_; clear n0_ n1_ n2_ n3_ n4_ n5_ n6_; clear hb hbox hg; have hnb10 := NB127_128.out; have hnc10 := NB128_127.out; have hcz11_0 : w9.cell? ⟨gb127, 0, none⟩ = some (.int .i64 a0_0) := (blk_cell BK127.out 0).trans rfl; have hcz11_1 : w9.cell? ⟨gb127, 1, none⟩ = some (.slice A0_1 l0_1.length c0_1) := (blk_cell BK127.out 1).trans rfl; have hfz11_0 := blk_frozen BK127.out 0; have hfz11_1 := blk_frozen BK127.out 1) | ((with_reducible refine gate_callee (f := 34) rfl ?_); refine goesL_ (some 13) rfl rfl Try.func34 (by kernel_rfl) rfl #[.agg #[.int .i64 a0_0, .slice A0_1 l0_1.length c0_1], .int .i64 a1] rfl (by (try simp only [List.map_toArray, List.map_cons, List.map_nil]); first | done | rfl | (simp only [List.length_drop, List.length_take]; rfl)) ?_; (with_reducible refine (post_find.calls k a0_0 _ _ l0_1 a1 t129 t130 _ ?side1 ?side2 A3.out).mono ?_); (case side1 => exact (Kd.C_below HR0_1.out HB.out)); (case side2 => exact HC0_1.out); rintro e w12 ⟨rfl, hb⟩; refine ⟨_, rfl, ?_⟩; have n0_ := Aside0.mk (blk_below BK127.out hb); have n1_ := Aside0.mk (blk_below BK128.out hb); have n2_ := Aside0.mk (below_step (by repeat (with_reducible first | exact HB.out | apply pw_below_drewN | apply below_drew1 | refine below_set ?_ GE127.out | refine below_set ?_ GE128.out)) hb); clear BK127; clear BK128; clear HB; have BK127 := n0_; have BK128 := n1_; have HB := n2_; clear n0_ n1_ n2_; (try clear hb); (try clear hb2); (try clear hk); (try clear hi); have hcz13_0 : w12.cell? ⟨gb127, 0, none⟩ = some (.int .i64 a0_0) := (blk_cell BK127.out 0).trans rfl; have hcz13_1 : w12.cell? ⟨gb127, 1, none⟩ = some (.slice A0_1 l0_1.length c0_1) := (blk_cell BK127.out 1).trans rfl; have hfz13_0 := blk_frozen BK127.out 0; have hfz13_1 := blk_frozen BK127.out 1; have p131 : 0 ≤ (t129 : Int) := of_decide_eq_true (by first | (with_reducible assumption) | assumption); have q131 : t129 < (l0_1.length : Int) := of_decide_eq_true (by first | (with_reducible assumption) | assumption); obtain ⟨ad131, e131, hx131_0, hx131_1, hx131_2, hx131_3⟩ := at_T35 HR0_1.out t129 p131 q131; cases e131; replace hx131_0 := (HB.out.cell (World.block_lt_of_cell? w _ hx131_0)).trans hx131_0; replace hx131_1 := (HB.out.cell (World.block_lt_of_cell? w _ hx131_1)).trans hx131_1; replace hx131_2 := (HB.out.cell (World.block_lt_of_cell? w _ hx131_2)).trans hx131_2; replace hx131_3 := (HB.out.cell (World.block_lt_of_cell? w _ hx131_3)).trans hx131_3; replace p131 := eq_true p131; replace q131 := eq_true q131) | ((with_reducible refine gate_dst (N := 9) rfl ?_); refine box_event ?hg (N := 9) ?hd (cs := #[.int .i64 0, .int .i64 0, .int .i64 0, .string (⟨#[]⟩ : ByteArray)]) (t := 35) ?hr ?_; (case hd => rfl); (case hg => rfl); (case hr => first | (go_simp; done) | (go_simp; rfl)); intro gb132 hg w14 hbox hb; have n0_ := Aside0.mk (blk_below BK127.out hb); have n1_ := Aside0.mk (blk_below BK128.out hb); have n2_ := Aside0.mk (below_step (by repeat (with_reducible first | exact HB.out | apply pw_below_drewN | apply below_drew1 | refine below_set ?_ GE127.out | refine below_set ?_ GE128.out)) hb); have n3_ := Aside0.mk (hbox); have n4_ := Aside0.mk ((by rw [hg]; exact (below_size (by repeat (with_reducible first | exact HB.out | apply pw_below_drewN | apply below_drew1 | refine below_set ?_ GE127.out | refine below_set ?_ GE128.out))) : w.heap.size ≤ gb132)); have n5_ := Aside0.mk ((by rw [hg]; exact (below_size (by repeat (with_reducible first | exact HB.out | apply pw_below_drewN | apply below_drew1 | refine below_set ?_ GE127.out | refine below_set ?_ GE128.out))) : w.heap.size ≤ gb132)); have n6_ := Aside0.mk ((by rw [hg]; exact Nat.ne_of_lt (blk_lt BK127.out) : gb127 ≠ gb132)); have n7_ := Aside0.mk ((by rw [hg]; exact Nat.ne_of_gt (blk_lt BK127.out) : gb132 ≠ gb127)); have n8_ := Aside0.mk ((by rw [hg]; exact Nat.ne_of_lt (blk_lt BK128.out) : gb128 ≠ gb132)); have n9_ := Aside0.mk ((by rw [hg]; exact Nat.ne_of_gt (blk_lt BK128.out) : gb132 ≠ gb128)); clear BK127; clear BK128; clear HB; have BK127 := n0_; have BK128 := n1_; have HB := n2_; have BK132 := n3_; have GW132 := n4_; have GE132 := n5_; have NB127_132 := n6_; have NB132_127 := n7_; have NB128_132 := n8_; have NB132_128 := n9_; clear n0_ n1_ n2_ n3_ n4_ n5_ n6_ n7_ n8_ n9_; clear hb hbox hg; have hnb15 := NB132_127.out; have hnc15 := NB127_132.out; have hnb16 := NB132_128.out; have hnc16 := NB128_132.out; have hcz17_0 : w14.cell? ⟨gb132, 0, none⟩ = some (.int .i64 0) := (blk_cell BK132.out 0).trans rfl; have hcz17_1 : w14.cell? ⟨gb132, 1, none⟩ = some (.int .i64 0) := (blk_cell BK132.out 1).trans rfl; have hcz17_2 : w14.cell? ⟨gb132, 2, none⟩ = some (.int .i64 0) := (blk_cell BK132.out 2).trans rfl; have hcz17_3 : w14.cell? ⟨gb132, 3, none⟩ = some (.string (⟨#[]⟩ : ByteArray)) := (blk_cell BK132.out 3).trans rfl; have hfz17_0 := blk_frozen BK132.out 0; have hfz17_1 := blk_frozen BK132.out 1; have hfz17_2 := blk_frozen BK132.out 2; have hfz17_3 := blk_frozen BK132.out 3; have hcz18_0 : w14.cell? ⟨gb127, 0, none⟩ = some (.int .i64 a0_0) := (blk_cell BK127.out 0).trans rfl; have hcz18_1 : w14.cell? ⟨gb127, 1, none⟩ = some (.slice (some ad131) l0_1.length c0_1) := (blk_cell BK127.out 1).trans rfl; have hfz18_0 := blk_frozen BK127.out 0; have hfz18_1 := blk_frozen BK127.out 1) | ((with_reducible refine gate_dst (N := 32) rfl ?_); refine Kd.R_lit Kd.string _ 9 ?hg (N := 32) ?hd (xs := ([(rd_T35 l0_1 t129).f3] : List ByteArray)) (inner := [.string ((rd_T35 l0_1 t129).f3)]) (ok := fun _ => True) (okp := fun _ => True) ?hr ?hp (fun _ hk => hk) trivial (Below.refl _ _) (Nat.le_refl _) (by simp) ?_; (case hd => rfl); (case hg => rfl); (case hr => first | (go_simp; done) | (go_simp; rfl)); (case hp => exact (Reps.one (show Kd.M Kd.string _ _ _ ((rd_T35 l0_1 t129).f3) [.string ((rd_T35 l0_1 t129).f3)] from rfl) (Reps.none _ _))); intro v134 w19 ho20 hb hg_ hnew_; clear hg_ hnew_; (first | rw [← Ny133.out] at ho20 | (simp only [Int.reduceToNat] at ho20; rw [← Ny133.out] at ho20)); have n0_ := Aside0.mk (Kd.R_lower ho20 (below_size (by repeat (with_reducible first | exact HB.out | apply pw_below_drewN | apply below_drew1 | refine below_set ?_ GE127.out | refine below_set ?_ GE128.out | refine below_set ?_ GE132.out)))); have n1_ := Aside0.mk (blk_below (g := gb127) (o := .cells #[.int .i64 a0_0, .slice (some ad131) l0_1.length c0_1] 24 (0, 0)) (by refine blk_far ?_ NB127_132.out _; refine blk_far ?_ NB127_132.out _; refine blk_far ?_ NB127_132.out _; refine blk_far ?_ NB127_132.out _; exact BK127.out) hb); have n2_ := Aside0.mk (blk_below (g := gb128) (o := .cells #[.int .i64 0, .slice none 0 0] 24 (0, 0)) (by refine blk_far ?_ NB128_132.out _; refine blk_far ?_ NB128_132.out _; refine blk_far ?_ NB128_132.out _; refine blk_far ?_ NB128_132.out _; exact BK128.out) hb); have n3_ := Aside0.mk (blk_below (g := gb132) (o := .cells #[.int .i64 ((rd_T35 l0_1 t129).f0), .int .i64 ((rd_T35 l0_1 t129).f1), .int .i64 ((rd_T35 l0_1 t129).f2), .string ((rd_T35 l0_1 t129).f3)] 35 (0, 0)) (by refine blk_put (cs := #[.int .i64 ((rd_T35 l0_1 t129).f0), .int .i64 ((rd_T35 l0_1 t129).f1), .int .i64 ((rd_T35 l0_1 t129).f2), .string (⟨#[]⟩ : ByteArray)]) ?_ 3 _ rfl; refine blk_put (cs := #[.int .i64 ((rd_T35 l0_1 t129).f0), .int .i64 ((rd_T35 l0_1 t129).f1), .int .i64 0, .string (⟨#[]⟩ : ByteArray)]) ?_ 2 _ rfl; refine blk_put (cs := #[.int .i64 ((rd_T35 l0_1 t129).f0), .int .i64 0, .int .i64 0, .string (⟨#[]⟩ : ByteArray)]) ?_ 1 _ rfl; refine blk_put (cs := #[.int .i64 0, .int .i64 0, .int .i64 0, .string (⟨#[]⟩ : ByteArray)]) ?_ 0 _ rfl; exact BK132.out) hb); have n4_ := Aside0.mk (below_step (by repeat (with_reducible first | exact HB.out | apply pw_below_drewN | apply below_drew1 | refine below_set ?_ GE127.out | refine below_set ?_ GE128.out | refine below_set ?_ GE132.out)) hb); clear BK127; clear BK128; clear BK132; clear HB; have HO135 := n0_; have BK127 := n1_; have BK128 := n2_; have BK132 := n3_; have HB := n4_; clear n0_ n1_ n2_ n3_ n4_; clear hb ho20; obtain ⟨Ao21, co21, eo21⟩ := Kd.R_slice HO135.out; subst eo21) | ((with_reducible refine gate_callee (f := 10) rfl ?_); refine goesL_ (some 33) rfl rfl Try.func10 (by kernel_rfl) rfl #[.agg #[.int .i64 a0_0, .slice (some ad131) l0_1.length c0_1], .int .i64 ((rd_T35 l0_1 t129).f1), .int .i64 ((rd_T35 l0_1 t129).f2), .slice Ao21 y133.length co21] rfl (by (try simp only [List.map_toArray, List.map_cons, List.map_nil]); first | done | rfl | (simp only [List.length_drop, List.length_take]; rfl)) ?_; (with_reducible refine (post_Send.calls k a0_0 _ _ l0_1 ((rd_T35 l0_1 t129).f1) ((rd_T35 l0_1 t129).f2) _ _ y133 t136 t137 t140 t141 _ ?side1 ?side2 ?side3 ?side4 A7.out).mono ?_); (case side1 => exact (Kd.C_below HR0_1.out HB.out)); (case side2 => exact HC0_1.out); (case side3 => repeat (first | exact (Kd.R_reads' HO135.out).2.2 | (with_reducible refine Kd.C_alloc ?_ _) | (with_reducible refine Kd.C_drewN ?_ _) | (with_reducible refine Kd.C_drew ?_))); (case side4 => exact (Kd.R_reads' HO135.out).2.1); rintro e w22 ⟨v138, rfl, ho0, hb⟩; refine ⟨_, rfl, ?_⟩; have n0_ := Aside0.mk (Kd.R_below (HO135.out) hb); have n1_ := Aside0.mk (Kd.R_lower (Kd.R_newB ho0 (g := gb132) (o := .cells #[.int .i64 ((rd_T35 l0_1 t129).f0), .int .i64 ((rd_T35 l0_1 t129).f1), .int .i64 ((rd_T35 l0_1 t129).f2), .string ((rd_T35 l0_1 t129).f3)] 35 (0, 0)) BK132.out) (below_size (by repeat (with_reducible first | exact HB.out | apply pw_below_drewN | apply below_drew1 | refine below_set ?_ GE127.out | refine below_set ?_ GE128.out | refine below_set ?_ GE132.out)))); have n2_ := Aside0.mk (blk_below BK127.out hb); have n3_ := Aside0.mk (blk_below BK128.out hb); have n4_ := Aside0.mk (blk_below BK132.out hb); have n5_ := Aside0.mk (below_step (by repeat (with_reducible first | exact HB.out | apply pw_below_drewN | apply below_drew1 | refine below_set ?_ GE127.out | refine below_set ?_ GE128.out | refine below_set ?_ GE132.out)) hb); clear HO135; clear BK127; clear BK128; clear BK132; clear HB; have HO135 := n0_; have HO139 := n1_; have BK127 := n2_; have BK128 := n3_; have BK132 := n4_; have HB := n5_; clear n0_ n1_ n2_ n3_ n4_ n5_; (try clear hb); (try clear hb2); (try clear hk); (try clear hi); (try clear ho0); have hcz23_0 : w22.cell? ⟨gb128, 0, none⟩ = some (.int .i64 0) := (blk_cell BK128.out 0).trans rfl; have hcz23_1 : w22.cell? ⟨gb128, 1, none⟩ = some (.slice none 0 0) := (blk_cell BK128.out 1).trans rfl; have hfz23_0 := blk_frozen BK128.out 0; have hfz23_1 := blk_frozen BK128.out 1; obtain ⟨Ao24, co24, eo24⟩ := Kd.R_slice HO139.out; subst eo24))
        refine bodyPost_ret (results_ctt rfl _ _ gb128 24 #[.int .i64 t136, .slice Ao24 t137.length co24] (0, 0) _ rfl (by refine blk_put (cs := #[.int .i64 t136, .slice none 0 0]) ?_ 1 _ rfl; refine blk_put (cs := #[.int .i64 0, .slice none 0 0]) ?_ 0 _ rfl; exact BK128.out) Try.underlying24 rfl (by kernel_rfl)) rfl ?_
        exact ⟨_, by first | rfl | (simp [errW_none, errW_some] <;> rfl) | (simp [*, errW_none, errW_some] <;> rfl), by (with_reducible repeat (first | apply Kd.R_alloc | apply Kd.R_drewN | apply Kd.R_drew)); exact Kd.R_mono (Kd.R_far (p := ⟨gb128, 1, none⟩) (Kd.R_far (p := ⟨gb128, 0, none⟩) (Kd.R_types HO139.out BK128.out (by decide)) (fun _ hk => hk.2) (.int .i64 t136)) (fun _ hk => hk.2) (.slice Ao24 t137.length co24)) (fun _ hk => trivial), by repeat (with_reducible first | exact HB.out | apply pw_below_drewN | apply below_drew1 | refine below_set ?_ GE127.out | refine below_set ?_ GE128.out | refine below_set ?_ GE132.out)⟩
      · rw [if_neg c6] at H
        exact absurd H (by simp)
    · rw [if_neg c5] at H
      exact absurd H (by simp)
  · rw [if_neg c4] at H
    have c4b0 : (t130 == 0) = false := beq_eq_false_iff_ne.mpr c4
    have c4b1 : (t130 != 0) = true := bne_iff_ne.mpr c4
    simp only [Option.some.injEq, Prod.mk.injEq] at H
    obtain ⟨rfl, rfl, rfl, rfl⟩ := H
    go_enter Try.func15, Try.ntmps15
    go_wp2_with (first | ((with_reducible refine gate_dst (N := 2) rfl ?_); refine box_event ?hg (N := 2) ?hd (cs := #[.int .i64 a0_0, .slice A0_1 l0_1.length c0_1]) (t := 24) ?hr ?_; (case hd => rfl); (case hg => rfl); (case hr => first | (go_simp; done) | (go_simp; rfl)); intro gb127 hg w25 hbox hb; have n0_ := Aside0.mk (below_step HB.out hb); have n1_ := Aside0.mk (hbox); have n2_ := Aside0.mk ((by rw [hg]; exact (below_size HB.out) : w.heap.size ≤ gb127)); have n3_ := Aside0.mk ((by rw [hg]; exact (below_size HB.out) : w.heap.size ≤ gb127)); clear HB; have HB := n0_; have BK127 := n1_; have GW127 := n2_; have GE127 := n3_; clear n0_ n1_ n2_ n3_; clear hb hbox hg) | ((with_reducible refine gate_dst (N := 4) rfl ?_); refine box_event ?hg (N := 4) ?hd (cs := #[.int .i64 0, .slice none 0 0]) (t := 24) ?hr ?_; (case hd => rfl); (case hg => rfl); (case hr => first | (go_simp; done) | (go_simp; rfl)); intro gb128 hg w26 hbox hb; have n0_ := Aside0.mk (blk_below BK127.out hb); have n1_ := Aside0.mk (below_step (by repeat (with_reducible first | exact HB.out | apply pw_below_drewN | apply below_drew1 | refine below_set ?_ GE127.out)) hb); have n2_ := Aside0.mk (hbox); have n3_ := Aside0.mk ((by rw [hg]; exact (below_size (by repeat (with_reducible first | exact HB.out | apply pw_below_drewN | apply below_drew1 | refine below_set ?_ GE127.out))) : w.heap.size ≤ gb128)); have n4_ := Aside0.mk ((by rw [hg]; exact (below_size (by repeat (with_reducible first | exact HB.out | apply pw_below_drewN | apply below_drew1 | refine below_set ?_ GE127.out))) : w.heap.size ≤ gb128)); have n5_ := Aside0.mk ((by rw [hg]; exact Nat.ne_of_lt (blk_lt BK127.out) : gb127 ≠ gb128)); have n6_ := Aside0.mk ((by rw [hg]; exact Nat.ne_of_gt (blk_lt BK127.out) : gb128 ≠ gb127)); clear BK127; clear HB; have BK127 := n0_; have HB := n1_; have BK128 := n2_; have GW128 := n3_; have GE128 := n4_; have NB127_128 := n5_; have NB128_127 := n6_; clear n0_ n1_ n2_ n3_ n4_ n5_ n6_; clear hb hbox hg; have hnb27 := NB127_128.out; have hnc27 := NB128_127.out; have hcz28_0 : w26.cell? ⟨gb127, 0, none⟩ = some (.int .i64 a0_0) := (blk_cell BK127.out 0).trans rfl; have hcz28_1 : w26.cell? ⟨gb127, 1, none⟩ = some (.slice A0_1 l0_1.length c0_1) := (blk_cell BK127.out 1).trans rfl; have hfz28_0 := blk_frozen BK127.out 0; have hfz28_1 := blk_frozen BK127.out 1) | ((with_reducible refine gate_callee (f := 34) rfl ?_); refine goesL_ (some 13) rfl rfl Try.func34 (by kernel_rfl) rfl #[.agg #[.int .i64 a0_0, .slice A0_1 l0_1.length c0_1], .int .i64 a1] rfl (by (try simp only [List.map_toArray, List.map_cons, List.map_nil]); first | done | rfl | (simp only [List.length_drop, List.length_take]; rfl)) ?_; (with_reducible refine (post_find.calls k a0_0 _ _ l0_1 a1 t129 t130 _ ?side1 ?side2 A3.out).mono ?_); (case side1 => exact (Kd.C_below HR0_1.out HB.out)); (case side2 => exact HC0_1.out); rintro e w29 ⟨rfl, hb⟩; refine ⟨_, rfl, ?_⟩; have n0_ := Aside0.mk (blk_below BK127.out hb); have n1_ := Aside0.mk (blk_below BK128.out hb); have n2_ := Aside0.mk (below_step (by repeat (with_reducible first | exact HB.out | apply pw_below_drewN | apply below_drew1 | refine below_set ?_ GE127.out | refine below_set ?_ GE128.out)) hb); clear BK127; clear BK128; clear HB; have BK127 := n0_; have BK128 := n1_; have HB := n2_; clear n0_ n1_ n2_; (try clear hb); (try clear hb2); (try clear hk); (try clear hi); have hcz30_0 : w29.cell? ⟨gb128, 0, none⟩ = some (.int .i64 0) := (blk_cell BK128.out 0).trans rfl; have hcz30_1 : w29.cell? ⟨gb128, 1, none⟩ = some (.slice none 0 0) := (blk_cell BK128.out 1).trans rfl; have hfz30_0 := blk_frozen BK128.out 0; have hfz30_1 := blk_frozen BK128.out 1))
    refine bodyPost_ret (results_ctt rfl _ _ gb128 24 #[.int .i64 0, .slice none 0 0] (0, 0) _ rfl (by refine blk_put (cs := #[.int .i64 0, .slice none 0 0]) ?_ 1 _ rfl; refine blk_put (cs := #[.int .i64 0, .slice none 0 0]) ?_ 0 _ rfl; exact BK128.out) Try.underlying24 rfl (by kernel_rfl)) rfl ?_
    exact ⟨_, by first | rfl | (simp [errW_none, errW_some] <;> rfl) | (simp [*, errW_none, errW_some] <;> rfl), by first | exact Kd.R_nil _ _ _ _ _ | exact Kd.N_nil _ _ _ _ _ | exact Kd.V_nil _ _ _ _ _ | exact Kd.Q_nil _ _ _ _ _ | exact Kd.S_nil _ _ _ _ _, by repeat (with_reducible first | exact HB.out | apply pw_below_drewN | apply below_drew1 | refine below_set ?_ GE127.out | refine below_set ?_ GE128.out)⟩

/-! ### slices_Index_int_int: function 44 -/
def slices_Index_int_int.l0 : Nat → List Int → Int → Int → Int → Option (Int)
  | 0, _, _, _, _ => none
  | k + 1, x0, x1, x7, x8 => if x8 < x7 then (if 0 ≤ x8 then (if x8 < (x0.length : Int) then (if x1 = (rd x0 x8) then (some x8) else (slices_Index_int_int.l0 k x0 x1 x7 (wrap64 (x8 + 1)))) else (none)) else (none)) else (some (-1))
def slices_Index_int_int.f (k : Nat) (l0 : List Int) (a1 : Int) : Option (Int) := slices_Index_int_int.l0 k l0 a1 (l0.length : Int) 0
theorem slices_Index_int_int.mono_l : ∀ k, (∀ y0 y1 y2 y3, LeO (slices_Index_int_int.l0 k y0 y1 y2 y3) (slices_Index_int_int.l0 (k + 1) y0 y1 y2 y3))
  | 0 => fun _ _ _ _ r h => by simp [slices_Index_int_int.l0] at h
  | k + 1 => by
    have ih0 := slices_Index_int_int.mono_l k
    · intro y0 y1 y2 y3
      unfold slices_Index_int_int.l0
      repeat' first
      | (with_reducible exact ih0 _ _ _ _)
      | (with_reducible exact LeO.refl _)
      | (with_reducible exact LeO.none _)
      | (with_reducible refine LeO.ite ?_ ?_)
      | (with_reducible refine LeO.bind ?_ (fun _ => ?_))
      | exact ih0 _ _ _ _
      | exact LeO.none _
      | refine LeO.ite ?_ ?_
      | refine LeO.bind ?_ (fun _ => ?_)
theorem slices_Index_int_int.mono : ∀ a0 a1 k, LeO (slices_Index_int_int.f k a0 a1) (slices_Index_int_int.f (k + 1) a0 a1) := by
  intro a0 a1 k
  have ih0 := slices_Index_int_int.mono_l k
  unfold slices_Index_int_int.f
  repeat' first
      | (with_reducible exact ih0 _ _ _ _)
      | (with_reducible exact LeO.refl _)
      | (with_reducible exact LeO.none _)
      | (with_reducible refine LeO.ite ?_ ?_)
      | (with_reducible refine LeO.bind ?_ (fun _ => ?_))
      | exact ih0 _ _ _ _
      | exact LeO.none _
      | refine LeO.ite ?_ ?_
      | refine LeO.bind ?_ (fun _ => ?_)
set_option maxHeartbeats 8000000 in
set_option maxRecDepth 100000 in
theorem slices_Index_int_int.calls (k : Nat) (A0 : Option Addr) (c0 : Nat) (l0 : List Int) (a1 : Int) (r : Int) (w : World) (hr0 : Kd.C (Kd.int .i64) w A0 l0.length l0) (hc0 : l0.length ≤ c0) (h : slices_Index_int_int.f k l0 a1 = some r) :
    Calls Try.prog 44 #[.slice A0 l0.length c0, .int .i64 a1] w fun e w' => e = .returned (.int .i64 r) ∧ Drawn0 w w' := by
  have HR0 := Aside0.mk hr0
  have HC0 := Aside0.mk hc0
  clear hr0 hc0
  have H : (slices_Index_int_int.l0 k l0 a1 (l0.length : Int) 0) = some r := h
  clear h
  have H' := Aside0.mk H
  clear H
  go_enter Try.func44, Try.ntmps44
  go_wp2
  go_loopg [8] k (fun kq v8 w' => ∃ (x8_1 : Int), v8 = .int .i64 x8_1 ∧ Aside0 (slices_Index_int_int.l0 kq l0 a1 (l0.length : Int) x8_1 = some r) ∧ Aside0 (kq ≤ k) ∧ Drawn0 w w')
  case atStart => exact ⟨(0), (by first | rfl | (simp; done) | (simp [*]; done)), H', ⟨Nat.le_refl _⟩, by repeat (first | exact Drawn0.refl _ | apply Drawn0.step)⟩
  case round =>
    clear H'
    try clear p2
    obtain ⟨x8_1, rfl, HA, HK1, ⟨m1, rfl⟩⟩ := hrel
    cases gk with
    | zero => exact absurd HA.out (by simp [slices_Index_int_int.l0])
    | succ k1 =>
      have H := HA.out
      clear HA
      simp only [slices_Index_int_int.l0] at H
      by_cases c3 : x8_1 < (l0.length : Int)
      · rw [if_pos c3] at H
        have c3b0 : decide (x8_1 < (l0.length : Int)) = true := decide_eq_true c3
        clear c3
        by_cases c4 : 0 ≤ x8_1
        · rw [if_pos c4] at H
          have c4b0 : decide (0 ≤ x8_1) = true := decide_eq_true c4
          clear c4
          by_cases c5 : x8_1 < (l0.length : Int)
          · rw [if_pos c5] at H
            have c5b0 : decide (x8_1 < (l0.length : Int)) = true := decide_eq_true c5
            clear c5
            by_cases c6 : a1 = (rd l0 x8_1)
            · rw [if_pos c6] at H
              have c6b0 : (a1 == (rd l0 x8_1)) = true := beq_iff_eq.mpr c6
              have c6b1 : (a1 != (rd l0 x8_1)) = false := bne_eq_false_iff_eq.mpr c6
              clear c6
              obtain rfl := Option.some.inj H
              have p142 : 0 ≤ (x8_1 : Int) := of_decide_eq_true (by first | (with_reducible assumption) | assumption)
              have q142 : x8_1 < (l0.length : Int) := of_decide_eq_true (by first | (with_reducible assumption) | assumption)
              obtain ⟨ad142, e142, hx142_0⟩ := Kd.at_int HR0.out x8_1 p142 q142
              cases e142
              replace p142 := eq_true p142
              replace q142 := eq_true q142
              go_wp2
              go_ret
              exact ⟨by first | rfl | (simp; done) | (simp [*]; done), by repeat (first | exact Drawn0.refl _ | apply Drawn0.step)⟩
            · rw [if_neg c6] at H
              have c6b0 : (a1 == (rd l0 x8_1)) = false := beq_eq_false_iff_ne.mpr c6
              have c6b1 : (a1 != (rd l0 x8_1)) = true := bne_iff_ne.mpr c6
              have H' := Aside0.mk H
              clear H
              have p142 : 0 ≤ (x8_1 : Int) := of_decide_eq_true (by first | (with_reducible assumption) | assumption)
              have q142 : x8_1 < (l0.length : Int) := of_decide_eq_true (by first | (with_reducible assumption) | assumption)
              obtain ⟨ad142, e142, hx142_0⟩ := Kd.at_int HR0.out x8_1 p142 q142
              cases e142
              replace p142 := eq_true p142
              replace q142 := eq_true q142
              go_wp2
              go_roundg k1
              case measure => have := HK1.out; omega
              case rel => exact ⟨(wrap64 (x8_1 + 1)), (by first | rfl | (simp; done) | (simp [*]; done)), H', ⟨by have := HK1.out; omega⟩, by repeat (first | exact Drawn0.refl _ | apply Drawn0.step)⟩
          · rw [if_neg c5] at H
            exact absurd H (by simp)
        · rw [if_neg c4] at H
          exact absurd H (by simp)
      · rw [if_neg c3] at H
        have c3b0 : decide (x8_1 < (l0.length : Int)) = false := decide_eq_false c3
        clear c3
        obtain rfl := Option.some.inj H
        go_wp2
        go_ret
        exact ⟨by first | rfl | (simp; done) | (simp [*]; done), by repeat (first | exact Drawn0.refl _ | apply Drawn0.step)⟩

/-! ### slices_Contains_int_int: function 39 -/
def slices_Contains_int_int.f (k : Nat) (l0 : List Int) (a1 : Int) : Option (Bool) := (slices_Index_int_int.f k l0 a1).bind fun t143 => (some (decide (t143 ≥ 0)))
theorem slices_Contains_int_int.mono : ∀ a0 a1 k, LeO (slices_Contains_int_int.f k a0 a1) (slices_Contains_int_int.f (k + 1) a0 a1) := by
  intro a0 a1 k
  unfold slices_Contains_int_int.f
  repeat' first
      | (with_reducible exact slices_Index_int_int.mono _ _ _)
      | (with_reducible exact LeO.refl _)
      | (with_reducible exact LeO.none _)
      | (with_reducible refine LeO.ite ?_ ?_)
      | (with_reducible refine LeO.bind ?_ (fun _ => ?_))
      | exact slices_Index_int_int.mono _ _ _
      | exact LeO.none _
      | refine LeO.ite ?_ ?_
      | refine LeO.bind ?_ (fun _ => ?_)
set_option maxHeartbeats 8000000 in
set_option maxRecDepth 100000 in
theorem slices_Contains_int_int.calls (k : Nat) (A0 : Option Addr) (c0 : Nat) (l0 : List Int) (a1 : Int) (r : Bool) (w : World) (hr0 : Kd.C (Kd.int .i64) w A0 l0.length l0) (hc0 : l0.length ≤ c0) (h : slices_Contains_int_int.f k l0 a1 = some r) :
    Calls Try.prog 39 #[.slice A0 l0.length c0, .int .i64 a1] w fun e w' => e = .returned (.bool r) ∧ Drawn0 w w' := by
  have HR0 := Aside0.mk hr0
  have HC0 := Aside0.mk hc0
  clear hr0 hc0
  have H : ((slices_Index_int_int.f k l0 a1).bind fun t143 => (some (decide (t143 ≥ 0)))) = some r := h
  clear h
  replace H := Option.bind_eq_some_iff.mp H
  obtain ⟨t143, A30, H⟩ := H
  replace H : (some (decide (t143 ≥ 0))) = some r := H
  have A3 := Aside0.mk A30
  clear A30
  obtain rfl := Option.some.inj H
  go_enter Try.func39, Try.ntmps39
  go_wp2_with (first | ((with_reducible refine gate_callee (f := 44) rfl ?_); refine goesL_ (some 7) rfl rfl Try.func44 (by kernel_rfl) rfl #[.slice A0 l0.length c0, .int .i64 a1] rfl (by (try simp only [List.map_toArray, List.map_cons, List.map_nil]); first | done | rfl | (simp only [List.length_drop, List.length_take]; rfl)) ?_; (with_reducible refine (slices_Index_int_int.calls k _ _ l0 a1 t143 _ ?side1 ?side2 A3.out).mono ?_); (case side1 => repeat (first | exact HR0.out | (with_reducible refine Kd.C_alloc ?_ _) | (with_reducible refine Kd.C_drewN ?_ _) | (with_reducible refine Kd.C_drew ?_))); (case side2 => exact HC0.out); rintro e w' ⟨rfl, ⟨nd, rfl⟩⟩; refine ⟨_, rfl, ?_⟩))
  go_ret
  exact ⟨by first | rfl | (simp; done) | (simp [*]; done), by repeat (first | exact Drawn0.refl _ | apply Drawn0.step)⟩

end Go.Proofs.Ytofbkpdpgmjllaa.F
