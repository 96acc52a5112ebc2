-- Written by a program of this session (xprint.py), out of the translation and of contracts proved by hand.
import Derived.Test.YtofbkpdpgmjllaaF0
import Derived.Test.YtofbkpdpgmjllaaF3
import Derived.Test.YtofbkpdpgmjllaaF4
import Derived.Test.YtofbkpdpgmjllaaF5
import Derived.Test.YtofbkpdpgmjllaaF6
namespace Go.Proofs.Ytofbkpdpgmjllaa.F
open Go.RowKit Go.Proofs.YtofbkpdpgmjllaaV.PrintWords Go.Proofs.YtofbkpdpgmjllaaV.PrintLast Go.Proofs.YtofbkpdpgmjllaaV.PrintMore
attribute [local go_sem] max2_int min2_int max_two min_two max_three min_three max_four min_four   -- for this text's walks alone
set_option linter.unusedVariables false
set_option linter.unusedSimpArgs false

/-! ### post_Send: function 10 -/
def whoB (x : Int) : Bool := decide (0 ≤ x) && decide (x ≤ 20)
def longB (l : List ByteArray) : Bool := l.any (fun s => decide (2000 < (s.size : Int)))
/-- The bodies, one behind the other: the next No, the letters, how many are lost. -/
def sendL (f t : Int) : Int → List S35 → Int → List ByteArray → Int × List S35 × Int
  | n, l, k, [] => (n, l, k)
  | n, l, k, s :: ss =>
    if (roomL t l).length < 200 then sendL f t (wrap64 (n + 1)) (roomL t l ++ [⟨n, f, t, s⟩]) (wrap64 (k + (roomN t l : Int))) ss
    else sendL f t (wrap64 (n + 1)) (roomL t l) (wrap64 (wrap64 (k + (roomN t l : Int)) + 1)) ss
def sendR (b : Bool) (n : Int) (l : List S35) (f t : Int) (ss : List ByteArray) : Int × List S35 × Int × Int :=
  if b = true ∧ whoB f = true ∧ whoB t = true ∧ longB ss = false then
    if n > 1000000000 - (ss.length : Int) then (0, [], 0, 2) else ((sendL f t n l 0 ss).1, (sendL f t n l 0 ss).2.1, (sendL f t n l 0 ss).2.2, 0)
  else (0, [], 0, 1)
def post_Send.f (k : Nat) (a0_0 : Int) (l0_1 : List S35) (a1 : Int) (a2 : Int) (l3 : List ByteArray) : Option (Int × List S35 × Int × Int) :=
  (post_Is.f k a0_0 l0_1).bind fun b => if l0_1.length < 1099511627776 then some (sendR b a0_0 l0_1 a1 a2 l3) else none
theorem post_Send.mono : ∀ a0 a1 a2 a3 a4 k, LeO (post_Send.f k a0 a1 a2 a3 a4) (post_Send.f (k + 1) a0 a1 a2 a3 a4) := by
  intro a0 a1 a2 a3 a4 k
  unfold post_Send.f
  exact LeO.bind (post_Is.mono a0 a1 k) (fun b => LeO.refl _)
theorem post_Send.who_any (x : Int) (w : World) : Calls Try.prog 29 #[.int .i64 x] w fun e w' => e = .returned (.bool (whoB x)) ∧ Drawn0 w w' := post_who.calls x (whoB x) w (by
  unfold post_who.f whoB
  by_cases h : x ≥ 0
  · rw [if_pos h, decide_eq_true (show 0 ≤ x from h), Bool.true_and]
  · rw [if_neg h, decide_eq_false (show ¬ 0 ≤ x from h), Bool.false_and])
theorem post_Send.long_one (W : World) (x : ByteArray) : Calls Try.prog 28 (#[.string x] ++ #[]) W fun e w' => e = .returned (.bool (decide (2000 < (x.size : Int)))) ∧ Below W.heap.size W w' := by
  show Calls Try.prog 28 #[.string x] W _
  go_enter Try.func28, Try.ntmps28
  go_wp2
  all_goals (go_ret; exact ⟨by first | rfl | (simp_all; done) | (simp; omega), Below.refl _ _⟩)
set_option maxHeartbeats 8000000 in
set_option maxRecDepth 100000 in
theorem post_Send.calls (k : Nat) (a0_0 : Int) (A0_1 : Option Addr) (c0_1 : Nat) (l0_1 : List S35) (a1 : Int) (a2 : Int) (A3 : Option Addr) (c3 : Nat) (l3 : List ByteArray) (r1 : Int) (r2 : List S35) (r3 : Int) (r4 : Int) (w : World) (hr0_1 : Kd.C k35 w A0_1 l0_1.length l0_1) (hc0_1 : l0_1.length ≤ c0_1) (hr3 : Kd.C Kd.string w A3 l3.length l3) (hc3 : l3.length ≤ c3) (h : post_Send.f k a0_0 l0_1 a1 a2 l3 = some (r1, r2, r3, r4)) :
    Calls Try.prog 10 #[.agg #[.int .i64 a0_0, .slice A0_1 l0_1.length c0_1], .int .i64 a1, .int .i64 a2, .slice A3 l3.length c3] w fun e w' => ∃ v1_ : Value, e = .returned (.tuple #[.agg #[.int .i64 r1, v1_], .int .i64 r3, .int .i64 r4]) ∧ Kd.R k35 35 w' w.heap.size (fun _ => True) v1_ r2 ∧ Below w.heap.size w w' := by
  have hu24 := Try.underlying24
  have hu35 := Try.underlying35
  have eg : ∀ args w, (callFunc 28 args).run Try.prog w = .ok (.enter 28 args) w := enters_of Try.func28 (by kernel_rfl) rfl
  have HR := Aside0.mk hr0_1
  have HC := Aside0.mk hc0_1
  have HR3 := Aside0.mk hr3
  have HC3 := Aside0.mk hc3
  clear hr0_1 hc0_1 hr3 hc3
  have HB := Aside0.mk (Below.refl w.heap.size w)
  have hh := Option.bind_eq_some_iff.mp h
  clear h
  obtain ⟨b, hb0, h⟩ := hh
  have IS := Aside0.mk hb0
  clear hb0
  by_cases hlen : l0_1.length < 1099511627776
  case neg => rw [if_neg hlen] at h; exact absurd h (by simp)
  rw [if_pos hlen] at h
  have LM := Aside0.mk hlen
  clear hlen
  replace h := Option.some.inj h
  generalize hLONG : longB l3 = lg at h
  have LONG : Aside0 (l3.any (fun s => decide (2000 < (s.size : Int))) = lg) := ⟨hLONG⟩
  by_cases hgood : b = true ∧ whoB a1 = true ∧ whoB a2 = true ∧ lg = false
  case neg =>
    have h2 : (r1, r2, r3, r4) = (0, [], 0, 1) := by rw [← h]; unfold sendR; rw [hLONG]; exact if_neg hgood
    simp only [Prod.mk.injEq] at h2
    obtain ⟨rfl, rfl, rfl, rfl⟩ := h2
    clear h hLONG
    cases b with
    | false =>
      clear hgood
      go_enter Try.func10, Try.ntmps10
      go_wp2_with (first | ((with_reducible refine gate_dst (N := 4) rfl ?_); refine box_event ?hg (N := 4) ?hd (cs := #[.int .i64 a0_0, .slice A0_1 l0_1.length c0_1]) (t := 24) ?hr ?_; (case hd => rfl); (case hg => rfl); (case hr => first | (go_simp; done) | (go_simp; rfl)); intro gbB hg w3 hbox hb; have n0_ := Aside0.mk (below_step HB.out hb); have n1_ := Aside0.mk hbox; have n2_ := Aside0.mk ((by rw [hg]; exact (below_size HB.out)) : w.heap.size ≤ gbB); clear HB; have HB := n0_; have BKB := n1_; have GEB := n2_; clear n0_ n1_ n2_; clear hb hbox hg) | ((with_reducible refine gate_dst (N := 8) rfl ?_); refine box_event ?hg (N := 8) ?hd (cs := #[.int .i64 0, .slice none 0 0]) (t := 24) ?hr ?_; (case hd => rfl); (case hg => rfl); (case hr => first | (go_simp; done) | (go_simp; rfl)); intro gbZ hg w4 hbox hb; have NEZ := Aside0.mk (show gbZ ≠ gbB from by rw [hg]; exact Nat.ne_of_gt (blk_lt BKB.out)); have n0_ := Aside0.mk (below_step HB.out hb); have n1_ := Aside0.mk hbox; have n2_ := Aside0.mk ((by rw [hg]; exact (below_size HB.out)) : w.heap.size ≤ gbZ); have m0_ := Aside0.mk (blk_below BKB.out hb); clear HB; clear BKB; have HB := n0_; have BKZ := n1_; have GEZ := n2_; have BKB := m0_; clear n0_ n1_ n2_ m0_; clear hb hbox hg; have hczB_0 : w4.cell? ⟨gbB, 0, none⟩ = some (.int .i64 a0_0) := (blk_cell BKB.out 0).trans rfl; have hczB_1 : w4.cell? ⟨gbB, 1, none⟩ = some (.slice A0_1 l0_1.length c0_1) := (blk_cell BKB.out 1).trans rfl; have hczZ_0 : w4.cell? ⟨gbZ, 0, none⟩ = some (.int .i64 0) := (blk_cell BKZ.out 0).trans rfl; have hczZ_1 : w4.cell? ⟨gbZ, 1, none⟩ = some (.slice none 0 0) := (blk_cell BKZ.out 1).trans rfl; have hfzZ_0 := blk_frozen BKZ.out 0; have hfzZ_1 := blk_frozen BKZ.out 1) | (go_at_call 25; refine (post_Is.calls k a0_0 A0_1 c0_1 l0_1 _ w4 (Kd.C_below HR.out HB.out) HC.out IS.out).mono ?_; rintro e w5 ⟨rfl, hb⟩; have n0_ := Aside0.mk (below_step HB.out hb); have m0_ := Aside0.mk (blk_below BKB.out hb); have m1_ := Aside0.mk (blk_below BKZ.out hb); clear HB BKB BKZ; have HB := n0_; have BKB := m0_; have BKZ := m1_; clear n0_ m0_ m1_ hb; (try clear hczB_0 hczB_1 hczZ_0 hczZ_1 hfzZ_0 hfzZ_1); have hczB_0 : w5.cell? ⟨gbB, 0, none⟩ = some (.int .i64 a0_0) := (blk_cell BKB.out 0).trans rfl; have hczB_1 : w5.cell? ⟨gbB, 1, none⟩ = some (.slice A0_1 l0_1.length c0_1) := (blk_cell BKB.out 1).trans rfl; have hczZ_0 : w5.cell? ⟨gbZ, 0, none⟩ = some (.int .i64 0) := (blk_cell BKZ.out 0).trans rfl; have hczZ_1 : w5.cell? ⟨gbZ, 1, none⟩ = some (.slice none 0 0) := (blk_cell BKZ.out 1).trans rfl; have hfzZ_0 := blk_frozen BKZ.out 0; have hfzZ_1 := blk_frozen BKZ.out 1) | (go_at_call 29; refine (post_Send.who_any _ _).mono ?_; rintro e w5 ⟨rfl, hd⟩; have hb := hd.below; clear hd; have n0_ := Aside0.mk (below_step HB.out hb); have m0_ := Aside0.mk (blk_below BKB.out hb); have m1_ := Aside0.mk (blk_below BKZ.out hb); clear HB BKB BKZ; have HB := n0_; have BKB := m0_; have BKZ := m1_; clear n0_ m0_ m1_ hb; (try clear hczB_0 hczB_1 hczZ_0 hczZ_1 hfzZ_0 hfzZ_1); have hczB_0 : w5.cell? ⟨gbB, 0, none⟩ = some (.int .i64 a0_0) := (blk_cell BKB.out 0).trans rfl; have hczB_1 : w5.cell? ⟨gbB, 1, none⟩ = some (.slice A0_1 l0_1.length c0_1) := (blk_cell BKB.out 1).trans rfl; have hczZ_0 : w5.cell? ⟨gbZ, 0, none⟩ = some (.int .i64 0) := (blk_cell BKZ.out 0).trans rfl; have hczZ_1 : w5.cell? ⟨gbZ, 1, none⟩ = some (.slice none 0 0) := (blk_cell BKZ.out 1).trans rfl; have hfzZ_0 := blk_frozen BKZ.out 0; have hfzZ_1 := blk_frozen BKZ.out 1) | (go_at_call 30; refine (contfunc_S.calls (fun s => decide (2000 < (s.size : Int))) 28 #[] eg A3 c3 l3 w5 (fun W x hbw => (post_Send.long_one W x).mono (fun _ _ ⟨he, hb⟩ => ⟨he, below_then hbw hbw.size hb⟩)) (Kd.C_below HR3.out HB.out)).mono ?_; rintro e w6 ⟨rfl, hb⟩; rw [LONG.out]; have n0_ := Aside0.mk (below_step HB.out hb); have m0_ := Aside0.mk (blk_below BKB.out hb); have m1_ := Aside0.mk (blk_below BKZ.out hb); clear HB BKB BKZ; have HB := n0_; have BKB := m0_; have BKZ := m1_; clear n0_ m0_ m1_ hb; (try clear hczB_0 hczB_1 hczZ_0 hczZ_1 hfzZ_0 hfzZ_1); have hczB_0 : w6.cell? ⟨gbB, 0, none⟩ = some (.int .i64 a0_0) := (blk_cell BKB.out 0).trans rfl; have hczB_1 : w6.cell? ⟨gbB, 1, none⟩ = some (.slice A0_1 l0_1.length c0_1) := (blk_cell BKB.out 1).trans rfl; have hczZ_0 : w6.cell? ⟨gbZ, 0, none⟩ = some (.int .i64 0) := (blk_cell BKZ.out 0).trans rfl; have hczZ_1 : w6.cell? ⟨gbZ, 1, none⟩ = some (.slice none 0 0) := (blk_cell BKZ.out 1).trans rfl; have hfzZ_0 := blk_frozen BKZ.out 0; have hfzZ_1 := blk_frozen BKZ.out 1))
      refine bodyPost_ret (results_ctt rfl _ _ gbZ 24 #[.int .i64 0, .slice none 0 0] (0, 0) _ rfl (by refine blk_put (cs := #[.int .i64 0, .slice none 0 0]) ?_ 1 _ rfl; refine blk_put (cs := #[.int .i64 0, .slice none 0 0]) ?_ 0 _ rfl; exact BKZ.out) Try.underlying24 rfl (by kernel_rfl)) rfl ?_
      exact ⟨_, by first | rfl | (simp; done) | (simp [*]; done), Kd.R_nil _ _ _ _ _, by repeat (with_reducible first | exact HB.out | refine below_set ?_ GEZ.out)⟩
    | true =>
    cases hw1 : whoB a1 with
    | false =>
      clear hgood
      go_enter Try.func10, Try.ntmps10
      go_wp2_with (first | ((with_reducible refine gate_dst (N := 4) rfl ?_); refine box_event ?hg (N := 4) ?hd (cs := #[.int .i64 a0_0, .slice A0_1 l0_1.length c0_1]) (t := 24) ?hr ?_; (case hd => rfl); (case hg => rfl); (case hr => first | (go_simp; done) | (go_simp; rfl)); intro gbB hg w3 hbox hb; have n0_ := Aside0.mk (below_step HB.out hb); have n1_ := Aside0.mk hbox; have n2_ := Aside0.mk ((by rw [hg]; exact (below_size HB.out)) : w.heap.size ≤ gbB); clear HB; have HB := n0_; have BKB := n1_; have GEB := n2_; clear n0_ n1_ n2_; clear hb hbox hg) | ((with_reducible refine gate_dst (N := 8) rfl ?_); refine box_event ?hg (N := 8) ?hd (cs := #[.int .i64 0, .slice none 0 0]) (t := 24) ?hr ?_; (case hd => rfl); (case hg => rfl); (case hr => first | (go_simp; done) | (go_simp; rfl)); intro gbZ hg w4 hbox hb; have NEZ := Aside0.mk (show gbZ ≠ gbB from by rw [hg]; exact Nat.ne_of_gt (blk_lt BKB.out)); have n0_ := Aside0.mk (below_step HB.out hb); have n1_ := Aside0.mk hbox; have n2_ := Aside0.mk ((by rw [hg]; exact (below_size HB.out)) : w.heap.size ≤ gbZ); have m0_ := Aside0.mk (blk_below BKB.out hb); clear HB; clear BKB; have HB := n0_; have BKZ := n1_; have GEZ := n2_; have BKB := m0_; clear n0_ n1_ n2_ m0_; clear hb hbox hg; have hczB_0 : w4.cell? ⟨gbB, 0, none⟩ = some (.int .i64 a0_0) := (blk_cell BKB.out 0).trans rfl; have hczB_1 : w4.cell? ⟨gbB, 1, none⟩ = some (.slice A0_1 l0_1.length c0_1) := (blk_cell BKB.out 1).trans rfl; have hczZ_0 : w4.cell? ⟨gbZ, 0, none⟩ = some (.int .i64 0) := (blk_cell BKZ.out 0).trans rfl; have hczZ_1 : w4.cell? ⟨gbZ, 1, none⟩ = some (.slice none 0 0) := (blk_cell BKZ.out 1).trans rfl; have hfzZ_0 := blk_frozen BKZ.out 0; have hfzZ_1 := blk_frozen BKZ.out 1) | (go_at_call 25; refine (post_Is.calls k a0_0 A0_1 c0_1 l0_1 _ w4 (Kd.C_below HR.out HB.out) HC.out IS.out).mono ?_; rintro e w5 ⟨rfl, hb⟩; have n0_ := Aside0.mk (below_step HB.out hb); have m0_ := Aside0.mk (blk_below BKB.out hb); have m1_ := Aside0.mk (blk_below BKZ.out hb); clear HB BKB BKZ; have HB := n0_; have BKB := m0_; have BKZ := m1_; clear n0_ m0_ m1_ hb; (try clear hczB_0 hczB_1 hczZ_0 hczZ_1 hfzZ_0 hfzZ_1); have hczB_0 : w5.cell? ⟨gbB, 0, none⟩ = some (.int .i64 a0_0) := (blk_cell BKB.out 0).trans rfl; have hczB_1 : w5.cell? ⟨gbB, 1, none⟩ = some (.slice A0_1 l0_1.length c0_1) := (blk_cell BKB.out 1).trans rfl; have hczZ_0 : w5.cell? ⟨gbZ, 0, none⟩ = some (.int .i64 0) := (blk_cell BKZ.out 0).trans rfl; have hczZ_1 : w5.cell? ⟨gbZ, 1, none⟩ = some (.slice none 0 0) := (blk_cell BKZ.out 1).trans rfl; have hfzZ_0 := blk_frozen BKZ.out 0; have hfzZ_1 := blk_frozen BKZ.out 1) | (go_at_call 29; refine (post_Send.who_any _ _).mono ?_; rintro e w5 ⟨rfl, hd⟩; have hb := hd.below; clear hd; have n0_ := Aside0.mk (below_step HB.out hb); have m0_ := Aside0.mk (blk_below BKB.out hb); have m1_ := Aside0.mk (blk_below BKZ.out hb); clear HB BKB BKZ; have HB := n0_; have BKB := m0_; have BKZ := m1_; clear n0_ m0_ m1_ hb; (try clear hczB_0 hczB_1 hczZ_0 hczZ_1 hfzZ_0 hfzZ_1); have hczB_0 : w5.cell? ⟨gbB, 0, none⟩ = some (.int .i64 a0_0) := (blk_cell BKB.out 0).trans rfl; have hczB_1 : w5.cell? ⟨gbB, 1, none⟩ = some (.slice A0_1 l0_1.length c0_1) := (blk_cell BKB.out 1).trans rfl; have hczZ_0 : w5.cell? ⟨gbZ, 0, none⟩ = some (.int .i64 0) := (blk_cell BKZ.out 0).trans rfl; have hczZ_1 : w5.cell? ⟨gbZ, 1, none⟩ = some (.slice none 0 0) := (blk_cell BKZ.out 1).trans rfl; have hfzZ_0 := blk_frozen BKZ.out 0; have hfzZ_1 := blk_frozen BKZ.out 1) | (go_at_call 30; refine (contfunc_S.calls (fun s => decide (2000 < (s.size : Int))) 28 #[] eg A3 c3 l3 w5 (fun W x hbw => (post_Send.long_one W x).mono (fun _ _ ⟨he, hb⟩ => ⟨he, below_then hbw hbw.size hb⟩)) (Kd.C_below HR3.out HB.out)).mono ?_; rintro e w6 ⟨rfl, hb⟩; rw [LONG.out]; have n0_ := Aside0.mk (below_step HB.out hb); have m0_ := Aside0.mk (blk_below BKB.out hb); have m1_ := Aside0.mk (blk_below BKZ.out hb); clear HB BKB BKZ; have HB := n0_; have BKB := m0_; have BKZ := m1_; clear n0_ m0_ m1_ hb; (try clear hczB_0 hczB_1 hczZ_0 hczZ_1 hfzZ_0 hfzZ_1); have hczB_0 : w6.cell? ⟨gbB, 0, none⟩ = some (.int .i64 a0_0) := (blk_cell BKB.out 0).trans rfl; have hczB_1 : w6.cell? ⟨gbB, 1, none⟩ = some (.slice A0_1 l0_1.length c0_1) := (blk_cell BKB.out 1).trans rfl; have hczZ_0 : w6.cell? ⟨gbZ, 0, none⟩ = some (.int .i64 0) := (blk_cell BKZ.out 0).trans rfl; have hczZ_1 : w6.cell? ⟨gbZ, 1, none⟩ = some (.slice none 0 0) := (blk_cell BKZ.out 1).trans rfl; have hfzZ_0 := blk_frozen BKZ.out 0; have hfzZ_1 := blk_frozen BKZ.out 1))
      refine bodyPost_ret (results_ctt rfl _ _ gbZ 24 #[.int .i64 0, .slice none 0 0] (0, 0) _ rfl (by refine blk_put (cs := #[.int .i64 0, .slice none 0 0]) ?_ 1 _ rfl; refine blk_put (cs := #[.int .i64 0, .slice none 0 0]) ?_ 0 _ rfl; exact BKZ.out) Try.underlying24 rfl (by kernel_rfl)) rfl ?_
      exact ⟨_, by first | rfl | (simp; done) | (simp [*]; done), Kd.R_nil _ _ _ _ _, by repeat (with_reducible first | exact HB.out | refine below_set ?_ GEZ.out)⟩
    | true =>
    cases hw2 : whoB a2 with
    | false =>
      clear hgood
      go_enter Try.func10, Try.ntmps10
      go_wp2_with (first | ((with_reducible refine gate_dst (N := 4) rfl ?_); refine box_event ?hg (N := 4) ?hd (cs := #[.int .i64 a0_0, .slice A0_1 l0_1.length c0_1]) (t := 24) ?hr ?_; (case hd => rfl); (case hg => rfl); (case hr => first | (go_simp; done) | (go_simp; rfl)); intro gbB hg w3 hbox hb; have n0_ := Aside0.mk (below_step HB.out hb); have n1_ := Aside0.mk hbox; have n2_ := Aside0.mk ((by rw [hg]; exact (below_size HB.out)) : w.heap.size ≤ gbB); clear HB; have HB := n0_; have BKB := n1_; have GEB := n2_; clear n0_ n1_ n2_; clear hb hbox hg) | ((with_reducible refine gate_dst (N := 8) rfl ?_); refine box_event ?hg (N := 8) ?hd (cs := #[.int .i64 0, .slice none 0 0]) (t := 24) ?hr ?_; (case hd => rfl); (case hg => rfl); (case hr => first | (go_simp; done) | (go_simp; rfl)); intro gbZ hg w4 hbox hb; have NEZ := Aside0.mk (show gbZ ≠ gbB from by rw [hg]; exact Nat.ne_of_gt (blk_lt BKB.out)); have n0_ := Aside0.mk (below_step HB.out hb); have n1_ := Aside0.mk hbox; have n2_ := Aside0.mk ((by rw [hg]; exact (below_size HB.out)) : w.heap.size ≤ gbZ); have m0_ := Aside0.mk (blk_below BKB.out hb); clear HB; clear BKB; have HB := n0_; have BKZ := n1_; have GEZ := n2_; have BKB := m0_; clear n0_ n1_ n2_ m0_; clear hb hbox hg; have hczB_0 : w4.cell? ⟨gbB, 0, none⟩ = some (.int .i64 a0_0) := (blk_cell BKB.out 0).trans rfl; have hczB_1 : w4.cell? ⟨gbB, 1, none⟩ = some (.slice A0_1 l0_1.length c0_1) := (blk_cell BKB.out 1).trans rfl; have hczZ_0 : w4.cell? ⟨gbZ, 0, none⟩ = some (.int .i64 0) := (blk_cell BKZ.out 0).trans rfl; have hczZ_1 : w4.cell? ⟨gbZ, 1, none⟩ = some (.slice none 0 0) := (blk_cell BKZ.out 1).trans rfl; have hfzZ_0 := blk_frozen BKZ.out 0; have hfzZ_1 := blk_frozen BKZ.out 1) | (go_at_call 25; refine (post_Is.calls k a0_0 A0_1 c0_1 l0_1 _ w4 (Kd.C_below HR.out HB.out) HC.out IS.out).mono ?_; rintro e w5 ⟨rfl, hb⟩; have n0_ := Aside0.mk (below_step HB.out hb); have m0_ := Aside0.mk (blk_below BKB.out hb); have m1_ := Aside0.mk (blk_below BKZ.out hb); clear HB BKB BKZ; have HB := n0_; have BKB := m0_; have BKZ := m1_; clear n0_ m0_ m1_ hb; (try clear hczB_0 hczB_1 hczZ_0 hczZ_1 hfzZ_0 hfzZ_1); have hczB_0 : w5.cell? ⟨gbB, 0, none⟩ = some (.int .i64 a0_0) := (blk_cell BKB.out 0).trans rfl; have hczB_1 : w5.cell? ⟨gbB, 1, none⟩ = some (.slice A0_1 l0_1.length c0_1) := (blk_cell BKB.out 1).trans rfl; have hczZ_0 : w5.cell? ⟨gbZ, 0, none⟩ = some (.int .i64 0) := (blk_cell BKZ.out 0).trans rfl; have hczZ_1 : w5.cell? ⟨gbZ, 1, none⟩ = some (.slice none 0 0) := (blk_cell BKZ.out 1).trans rfl; have hfzZ_0 := blk_frozen BKZ.out 0; have hfzZ_1 := blk_frozen BKZ.out 1) | (go_at_call 29; refine (post_Send.who_any _ _).mono ?_; rintro e w5 ⟨rfl, hd⟩; have hb := hd.below; clear hd; have n0_ := Aside0.mk (below_step HB.out hb); have m0_ := Aside0.mk (blk_below BKB.out hb); have m1_ := Aside0.mk (blk_below BKZ.out hb); clear HB BKB BKZ; have HB := n0_; have BKB := m0_; have BKZ := m1_; clear n0_ m0_ m1_ hb; (try clear hczB_0 hczB_1 hczZ_0 hczZ_1 hfzZ_0 hfzZ_1); have hczB_0 : w5.cell? ⟨gbB, 0, none⟩ = some (.int .i64 a0_0) := (blk_cell BKB.out 0).trans rfl; have hczB_1 : w5.cell? ⟨gbB, 1, none⟩ = some (.slice A0_1 l0_1.length c0_1) := (blk_cell BKB.out 1).trans rfl; have hczZ_0 : w5.cell? ⟨gbZ, 0, none⟩ = some (.int .i64 0) := (blk_cell BKZ.out 0).trans rfl; have hczZ_1 : w5.cell? ⟨gbZ, 1, none⟩ = some (.slice none 0 0) := (blk_cell BKZ.out 1).trans rfl; have hfzZ_0 := blk_frozen BKZ.out 0; have hfzZ_1 := blk_frozen BKZ.out 1) | (go_at_call 30; refine (contfunc_S.calls (fun s => decide (2000 < (s.size : Int))) 28 #[] eg A3 c3 l3 w5 (fun W x hbw => (post_Send.long_one W x).mono (fun _ _ ⟨he, hb⟩ => ⟨he, below_then hbw hbw.size hb⟩)) (Kd.C_below HR3.out HB.out)).mono ?_; rintro e w6 ⟨rfl, hb⟩; rw [LONG.out]; have n0_ := Aside0.mk (below_step HB.out hb); have m0_ := Aside0.mk (blk_below BKB.out hb); have m1_ := Aside0.mk (blk_below BKZ.out hb); clear HB BKB BKZ; have HB := n0_; have BKB := m0_; have BKZ := m1_; clear n0_ m0_ m1_ hb; (try clear hczB_0 hczB_1 hczZ_0 hczZ_1 hfzZ_0 hfzZ_1); have hczB_0 : w6.cell? ⟨gbB, 0, none⟩ = some (.int .i64 a0_0) := (blk_cell BKB.out 0).trans rfl; have hczB_1 : w6.cell? ⟨gbB, 1, none⟩ = some (.slice A0_1 l0_1.length c0_1) := (blk_cell BKB.out 1).trans rfl; have hczZ_0 : w6.cell? ⟨gbZ, 0, none⟩ = some (.int .i64 0) := (blk_cell BKZ.out 0).trans rfl; have hczZ_1 : w6.cell? ⟨gbZ, 1, none⟩ = some (.slice none 0 0) := (blk_cell BKZ.out 1).trans rfl; have hfzZ_0 := blk_frozen BKZ.out 0; have hfzZ_1 := blk_frozen BKZ.out 1))
      refine bodyPost_ret (results_ctt rfl _ _ gbZ 24 #[.int .i64 0, .slice none 0 0] (0, 0) _ rfl (by refine blk_put (cs := #[.int .i64 0, .slice none 0 0]) ?_ 1 _ rfl; refine blk_put (cs := #[.int .i64 0, .slice none 0 0]) ?_ 0 _ rfl; exact BKZ.out) Try.underlying24 rfl (by kernel_rfl)) rfl ?_
      exact ⟨_, by first | rfl | (simp; done) | (simp [*]; done), Kd.R_nil _ _ _ _ _, by repeat (with_reducible first | exact HB.out | refine below_set ?_ GEZ.out)⟩
    | true =>
    cases lg with
    | false => exact absurd ⟨rfl, hw1, hw2, rfl⟩ hgood
    | true =>
      clear hgood
      go_enter Try.func10, Try.ntmps10
      go_wp2_with (first | ((with_reducible refine gate_dst (N := 4) rfl ?_); refine box_event ?hg (N := 4) ?hd (cs := #[.int .i64 a0_0, .slice A0_1 l0_1.length c0_1]) (t := 24) ?hr ?_; (case hd => rfl); (case hg => rfl); (case hr => first | (go_simp; done) | (go_simp; rfl)); intro gbB hg w3 hbox hb; have n0_ := Aside0.mk (below_step HB.out hb); have n1_ := Aside0.mk hbox; have n2_ := Aside0.mk ((by rw [hg]; exact (below_size HB.out)) : w.heap.size ≤ gbB); clear HB; have HB := n0_; have BKB := n1_; have GEB := n2_; clear n0_ n1_ n2_; clear hb hbox hg) | ((with_reducible refine gate_dst (N := 8) rfl ?_); refine box_event ?hg (N := 8) ?hd (cs := #[.int .i64 0, .slice none 0 0]) (t := 24) ?hr ?_; (case hd => rfl); (case hg => rfl); (case hr => first | (go_simp; done) | (go_simp; rfl)); intro gbZ hg w4 hbox hb; have NEZ := Aside0.mk (show gbZ ≠ gbB from by rw [hg]; exact Nat.ne_of_gt (blk_lt BKB.out)); have n0_ := Aside0.mk (below_step HB.out hb); have n1_ := Aside0.mk hbox; have n2_ := Aside0.mk ((by rw [hg]; exact (below_size HB.out)) : w.heap.size ≤ gbZ); have m0_ := Aside0.mk (blk_below BKB.out hb); clear HB; clear BKB; have HB := n0_; have BKZ := n1_; have GEZ := n2_; have BKB := m0_; clear n0_ n1_ n2_ m0_; clear hb hbox hg; have hczB_0 : w4.cell? ⟨gbB, 0, none⟩ = some (.int .i64 a0_0) := (blk_cell BKB.out 0).trans rfl; have hczB_1 : w4.cell? ⟨gbB, 1, none⟩ = some (.slice A0_1 l0_1.length c0_1) := (blk_cell BKB.out 1).trans rfl; have hczZ_0 : w4.cell? ⟨gbZ, 0, none⟩ = some (.int .i64 0) := (blk_cell BKZ.out 0).trans rfl; have hczZ_1 : w4.cell? ⟨gbZ, 1, none⟩ = some (.slice none 0 0) := (blk_cell BKZ.out 1).trans rfl; have hfzZ_0 := blk_frozen BKZ.out 0; have hfzZ_1 := blk_frozen BKZ.out 1) | (go_at_call 25; refine (post_Is.calls k a0_0 A0_1 c0_1 l0_1 _ w4 (Kd.C_below HR.out HB.out) HC.out IS.out).mono ?_; rintro e w5 ⟨rfl, hb⟩; have n0_ := Aside0.mk (below_step HB.out hb); have m0_ := Aside0.mk (blk_below BKB.out hb); have m1_ := Aside0.mk (blk_below BKZ.out hb); clear HB BKB BKZ; have HB := n0_; have BKB := m0_; have BKZ := m1_; clear n0_ m0_ m1_ hb; (try clear hczB_0 hczB_1 hczZ_0 hczZ_1 hfzZ_0 hfzZ_1); have hczB_0 : w5.cell? ⟨gbB, 0, none⟩ = some (.int .i64 a0_0) := (blk_cell BKB.out 0).trans rfl; have hczB_1 : w5.cell? ⟨gbB, 1, none⟩ = some (.slice A0_1 l0_1.length c0_1) := (blk_cell BKB.out 1).trans rfl; have hczZ_0 : w5.cell? ⟨gbZ, 0, none⟩ = some (.int .i64 0) := (blk_cell BKZ.out 0).trans rfl; have hczZ_1 : w5.cell? ⟨gbZ, 1, none⟩ = some (.slice none 0 0) := (blk_cell BKZ.out 1).trans rfl; have hfzZ_0 := blk_frozen BKZ.out 0; have hfzZ_1 := blk_frozen BKZ.out 1) | (go_at_call 29; refine (post_Send.who_any _ _).mono ?_; rintro e w5 ⟨rfl, hd⟩; have hb := hd.below; clear hd; have n0_ := Aside0.mk (below_step HB.out hb); have m0_ := Aside0.mk (blk_below BKB.out hb); have m1_ := Aside0.mk (blk_below BKZ.out hb); clear HB BKB BKZ; have HB := n0_; have BKB := m0_; have BKZ := m1_; clear n0_ m0_ m1_ hb; (try clear hczB_0 hczB_1 hczZ_0 hczZ_1 hfzZ_0 hfzZ_1); have hczB_0 : w5.cell? ⟨gbB, 0, none⟩ = some (.int .i64 a0_0) := (blk_cell BKB.out 0).trans rfl; have hczB_1 : w5.cell? ⟨gbB, 1, none⟩ = some (.slice A0_1 l0_1.length c0_1) := (blk_cell BKB.out 1).trans rfl; have hczZ_0 : w5.cell? ⟨gbZ, 0, none⟩ = some (.int .i64 0) := (blk_cell BKZ.out 0).trans rfl; have hczZ_1 : w5.cell? ⟨gbZ, 1, none⟩ = some (.slice none 0 0) := (blk_cell BKZ.out 1).trans rfl; have hfzZ_0 := blk_frozen BKZ.out 0; have hfzZ_1 := blk_frozen BKZ.out 1) | (go_at_call 30; refine (contfunc_S.calls (fun s => decide (2000 < (s.size : Int))) 28 #[] eg A3 c3 l3 w5 (fun W x hbw => (post_Send.long_one W x).mono (fun _ _ ⟨he, hb⟩ => ⟨he, below_then hbw hbw.size hb⟩)) (Kd.C_below HR3.out HB.out)).mono ?_; rintro e w6 ⟨rfl, hb⟩; rw [LONG.out]; have n0_ := Aside0.mk (below_step HB.out hb); have m0_ := Aside0.mk (blk_below BKB.out hb); have m1_ := Aside0.mk (blk_below BKZ.out hb); clear HB BKB BKZ; have HB := n0_; have BKB := m0_; have BKZ := m1_; clear n0_ m0_ m1_ hb; (try clear hczB_0 hczB_1 hczZ_0 hczZ_1 hfzZ_0 hfzZ_1); have hczB_0 : w6.cell? ⟨gbB, 0, none⟩ = some (.int .i64 a0_0) := (blk_cell BKB.out 0).trans rfl; have hczB_1 : w6.cell? ⟨gbB, 1, none⟩ = some (.slice A0_1 l0_1.length c0_1) := (blk_cell BKB.out 1).trans rfl; have hczZ_0 : w6.cell? ⟨gbZ, 0, none⟩ = some (.int .i64 0) := (blk_cell BKZ.out 0).trans rfl; have hczZ_1 : w6.cell? ⟨gbZ, 1, none⟩ = some (.slice none 0 0) := (blk_cell BKZ.out 1).trans rfl; have hfzZ_0 := blk_frozen BKZ.out 0; have hfzZ_1 := blk_frozen BKZ.out 1))
      refine bodyPost_ret (results_ctt rfl _ _ gbZ 24 #[.int .i64 0, .slice none 0 0] (0, 0) _ rfl (by refine blk_put (cs := #[.int .i64 0, .slice none 0 0]) ?_ 1 _ rfl; refine blk_put (cs := #[.int .i64 0, .slice none 0 0]) ?_ 0 _ rfl; exact BKZ.out) Try.underlying24 rfl (by kernel_rfl)) rfl ?_
      exact ⟨_, by first | rfl | (simp; done) | (simp [*]; done), Kd.R_nil _ _ _ _ _, by repeat (with_reducible first | exact HB.out | refine below_set ?_ GEZ.out)⟩
  obtain ⟨rfl, hw1, hw2, rfl⟩ := hgood
  rw [sendR, if_pos ⟨rfl, hw1, hw2, hLONG⟩] at h
  clear hLONG
  have hl47 : (l3.length : Int) ≤ 9223372036854775807 := by have := HR3.out.2.1; omega
  by_cases hlim : a0_0 > 1000000000 - (l3.length : Int)
  · rw [if_pos hlim] at h
    simp only [Prod.mk.injEq] at h
    obtain ⟨rfl, rfl, rfl, rfl⟩ := h
    have d1 : decide (1000000000 - (l3.length : Int) < a0_0) = true := decide_eq_true hlim
    go_enter Try.func10, Try.ntmps10
    go_wp2_with (first | ((with_reducible refine gate_dst (N := 4) rfl ?_); refine box_event ?hg (N := 4) ?hd (cs := #[.int .i64 a0_0, .slice A0_1 l0_1.length c0_1]) (t := 24) ?hr ?_; (case hd => rfl); (case hg => rfl); (case hr => first | (go_simp; done) | (go_simp; rfl)); intro gbB hg w3 hbox hb; have n0_ := Aside0.mk (below_step HB.out hb); have n1_ := Aside0.mk hbox; have n2_ := Aside0.mk ((by rw [hg]; exact (below_size HB.out)) : w.heap.size ≤ gbB); clear HB; have HB := n0_; have BKB := n1_; have GEB := n2_; clear n0_ n1_ n2_; clear hb hbox hg) | ((with_reducible refine gate_dst (N := 8) rfl ?_); refine box_event ?hg (N := 8) ?hd (cs := #[.int .i64 0, .slice none 0 0]) (t := 24) ?hr ?_; (case hd => rfl); (case hg => rfl); (case hr => first | (go_simp; done) | (go_simp; rfl)); intro gbZ hg w4 hbox hb; have NEZ := Aside0.mk (show gbZ ≠ gbB from by rw [hg]; exact Nat.ne_of_gt (blk_lt BKB.out)); have n0_ := Aside0.mk (below_step HB.out hb); have n1_ := Aside0.mk hbox; have n2_ := Aside0.mk ((by rw [hg]; exact (below_size HB.out)) : w.heap.size ≤ gbZ); have m0_ := Aside0.mk (blk_below BKB.out hb); clear HB; clear BKB; have HB := n0_; have BKZ := n1_; have GEZ := n2_; have BKB := m0_; clear n0_ n1_ n2_ m0_; clear hb hbox hg; have hczB_0 : w4.cell? ⟨gbB, 0, none⟩ = some (.int .i64 a0_0) := (blk_cell BKB.out 0).trans rfl; have hczB_1 : w4.cell? ⟨gbB, 1, none⟩ = some (.slice A0_1 l0_1.length c0_1) := (blk_cell BKB.out 1).trans rfl; have hczZ_0 : w4.cell? ⟨gbZ, 0, none⟩ = some (.int .i64 0) := (blk_cell BKZ.out 0).trans rfl; have hczZ_1 : w4.cell? ⟨gbZ, 1, none⟩ = some (.slice none 0 0) := (blk_cell BKZ.out 1).trans rfl; have hfzZ_0 := blk_frozen BKZ.out 0; have hfzZ_1 := blk_frozen BKZ.out 1) | (go_at_call 25; refine (post_Is.calls k a0_0 A0_1 c0_1 l0_1 _ w4 (Kd.C_below HR.out HB.out) HC.out IS.out).mono ?_; rintro e w5 ⟨rfl, hb⟩; have n0_ := Aside0.mk (below_step HB.out hb); have m0_ := Aside0.mk (blk_below BKB.out hb); have m1_ := Aside0.mk (blk_below BKZ.out hb); clear HB BKB BKZ; have HB := n0_; have BKB := m0_; have BKZ := m1_; clear n0_ m0_ m1_ hb; (try clear hczB_0 hczB_1 hczZ_0 hczZ_1 hfzZ_0 hfzZ_1); have hczB_0 : w5.cell? ⟨gbB, 0, none⟩ = some (.int .i64 a0_0) := (blk_cell BKB.out 0).trans rfl; have hczB_1 : w5.cell? ⟨gbB, 1, none⟩ = some (.slice A0_1 l0_1.length c0_1) := (blk_cell BKB.out 1).trans rfl; have hczZ_0 : w5.cell? ⟨gbZ, 0, none⟩ = some (.int .i64 0) := (blk_cell BKZ.out 0).trans rfl; have hczZ_1 : w5.cell? ⟨gbZ, 1, none⟩ = some (.slice none 0 0) := (blk_cell BKZ.out 1).trans rfl; have hfzZ_0 := blk_frozen BKZ.out 0; have hfzZ_1 := blk_frozen BKZ.out 1) | (go_at_call 29; refine (post_Send.who_any _ _).mono ?_; rintro e w5 ⟨rfl, hd⟩; have hb := hd.below; clear hd; have n0_ := Aside0.mk (below_step HB.out hb); have m0_ := Aside0.mk (blk_below BKB.out hb); have m1_ := Aside0.mk (blk_below BKZ.out hb); clear HB BKB BKZ; have HB := n0_; have BKB := m0_; have BKZ := m1_; clear n0_ m0_ m1_ hb; (try clear hczB_0 hczB_1 hczZ_0 hczZ_1 hfzZ_0 hfzZ_1); have hczB_0 : w5.cell? ⟨gbB, 0, none⟩ = some (.int .i64 a0_0) := (blk_cell BKB.out 0).trans rfl; have hczB_1 : w5.cell? ⟨gbB, 1, none⟩ = some (.slice A0_1 l0_1.length c0_1) := (blk_cell BKB.out 1).trans rfl; have hczZ_0 : w5.cell? ⟨gbZ, 0, none⟩ = some (.int .i64 0) := (blk_cell BKZ.out 0).trans rfl; have hczZ_1 : w5.cell? ⟨gbZ, 1, none⟩ = some (.slice none 0 0) := (blk_cell BKZ.out 1).trans rfl; have hfzZ_0 := blk_frozen BKZ.out 0; have hfzZ_1 := blk_frozen BKZ.out 1) | (go_at_call 30; refine (contfunc_S.calls (fun s => decide (2000 < (s.size : Int))) 28 #[] eg A3 c3 l3 w5 (fun W x hbw => (post_Send.long_one W x).mono (fun _ _ ⟨he, hb⟩ => ⟨he, below_then hbw hbw.size hb⟩)) (Kd.C_below HR3.out HB.out)).mono ?_; rintro e w6 ⟨rfl, hb⟩; rw [LONG.out]; have n0_ := Aside0.mk (below_step HB.out hb); have m0_ := Aside0.mk (blk_below BKB.out hb); have m1_ := Aside0.mk (blk_below BKZ.out hb); clear HB BKB BKZ; have HB := n0_; have BKB := m0_; have BKZ := m1_; clear n0_ m0_ m1_ hb; (try clear hczB_0 hczB_1 hczZ_0 hczZ_1 hfzZ_0 hfzZ_1); have hczB_0 : w6.cell? ⟨gbB, 0, none⟩ = some (.int .i64 a0_0) := (blk_cell BKB.out 0).trans rfl; have hczB_1 : w6.cell? ⟨gbB, 1, none⟩ = some (.slice A0_1 l0_1.length c0_1) := (blk_cell BKB.out 1).trans rfl; have hczZ_0 : w6.cell? ⟨gbZ, 0, none⟩ = some (.int .i64 0) := (blk_cell BKZ.out 0).trans rfl; have hczZ_1 : w6.cell? ⟨gbZ, 1, none⟩ = some (.slice none 0 0) := (blk_cell BKZ.out 1).trans rfl; have hfzZ_0 := blk_frozen BKZ.out 0; have hfzZ_1 := blk_frozen BKZ.out 1))
    refine bodyPost_ret (results_ctt rfl _ _ gbZ 24 #[.int .i64 0, .slice none 0 0] (0, 0) _ rfl (by refine blk_put (cs := #[.int .i64 0, .slice none 0 0]) ?_ 1 _ rfl; refine blk_put (cs := #[.int .i64 0, .slice none 0 0]) ?_ 0 _ rfl; exact BKZ.out) Try.underlying24 rfl (by kernel_rfl)) rfl ?_
    exact ⟨_, by first | rfl | (simp; done) | (simp [*]; done), Kd.R_nil _ _ _ _ _, by repeat (with_reducible first | exact HB.out | refine below_set ?_ GEZ.out)⟩
  · rw [if_neg hlim] at h
    simp only [Prod.mk.injEq] at h
    obtain ⟨rfl, rfl, rfl, rfl⟩ := h
    have d1 : decide (1000000000 - (l3.length : Int) < a0_0) = false := decide_eq_false hlim
    clear hlim
    go_enter Try.func10, Try.ntmps10
    go_wp2_with (first | ((with_reducible refine gate_dst (N := 4) rfl ?_); refine box_event ?hg (N := 4) ?hd (cs := #[.int .i64 a0_0, .slice A0_1 l0_1.length c0_1]) (t := 24) ?hr ?_; (case hd => rfl); (case hg => rfl); (case hr => first | (go_simp; done) | (go_simp; rfl)); intro gbB hg w3 hbox hb; have n0_ := Aside0.mk (below_step HB.out hb); have n1_ := Aside0.mk hbox; have n2_ := Aside0.mk ((by rw [hg]; exact (below_size HB.out)) : w.heap.size ≤ gbB); clear HB; have HB := n0_; have BKB := n1_; have GEB := n2_; clear n0_ n1_ n2_; clear hb hbox hg) | ((with_reducible refine gate_dst (N := 8) rfl ?_); refine box_event ?hg (N := 8) ?hd (cs := #[.int .i64 0, .slice none 0 0]) (t := 24) ?hr ?_; (case hd => rfl); (case hg => rfl); (case hr => first | (go_simp; done) | (go_simp; rfl)); intro gbZ hg w4 hbox hb; have NEZ := Aside0.mk (show gbZ ≠ gbB from by rw [hg]; exact Nat.ne_of_gt (blk_lt BKB.out)); have n0_ := Aside0.mk (below_step HB.out hb); have n1_ := Aside0.mk hbox; have n2_ := Aside0.mk ((by rw [hg]; exact (below_size HB.out)) : w.heap.size ≤ gbZ); have m0_ := Aside0.mk (blk_below BKB.out hb); clear HB; clear BKB; have HB := n0_; have BKZ := n1_; have GEZ := n2_; have BKB := m0_; clear n0_ n1_ n2_ m0_; clear hb hbox hg; have hczB_0 : w4.cell? ⟨gbB, 0, none⟩ = some (.int .i64 a0_0) := (blk_cell BKB.out 0).trans rfl; have hczB_1 : w4.cell? ⟨gbB, 1, none⟩ = some (.slice A0_1 l0_1.length c0_1) := (blk_cell BKB.out 1).trans rfl; have hczZ_0 : w4.cell? ⟨gbZ, 0, none⟩ = some (.int .i64 0) := (blk_cell BKZ.out 0).trans rfl; have hczZ_1 : w4.cell? ⟨gbZ, 1, none⟩ = some (.slice none 0 0) := (blk_cell BKZ.out 1).trans rfl; have hfzZ_0 := blk_frozen BKZ.out 0; have hfzZ_1 := blk_frozen BKZ.out 1) | (go_at_call 25; refine (post_Is.calls k a0_0 A0_1 c0_1 l0_1 _ w4 (Kd.C_below HR.out HB.out) HC.out IS.out).mono ?_; rintro e w5 ⟨rfl, hb⟩; have n0_ := Aside0.mk (below_step HB.out hb); have m0_ := Aside0.mk (blk_below BKB.out hb); have m1_ := Aside0.mk (blk_below BKZ.out hb); clear HB BKB BKZ; have HB := n0_; have BKB := m0_; have BKZ := m1_; clear n0_ m0_ m1_ hb; (try clear hczB_0 hczB_1 hczZ_0 hczZ_1 hfzZ_0 hfzZ_1); have hczB_0 : w5.cell? ⟨gbB, 0, none⟩ = some (.int .i64 a0_0) := (blk_cell BKB.out 0).trans rfl; have hczB_1 : w5.cell? ⟨gbB, 1, none⟩ = some (.slice A0_1 l0_1.length c0_1) := (blk_cell BKB.out 1).trans rfl; have hczZ_0 : w5.cell? ⟨gbZ, 0, none⟩ = some (.int .i64 0) := (blk_cell BKZ.out 0).trans rfl; have hczZ_1 : w5.cell? ⟨gbZ, 1, none⟩ = some (.slice none 0 0) := (blk_cell BKZ.out 1).trans rfl; have hfzZ_0 := blk_frozen BKZ.out 0; have hfzZ_1 := blk_frozen BKZ.out 1) | (go_at_call 29; refine (post_Send.who_any _ _).mono ?_; rintro e w5 ⟨rfl, hd⟩; have hb := hd.below; clear hd; have n0_ := Aside0.mk (below_step HB.out hb); have m0_ := Aside0.mk (blk_below BKB.out hb); have m1_ := Aside0.mk (blk_below BKZ.out hb); clear HB BKB BKZ; have HB := n0_; have BKB := m0_; have BKZ := m1_; clear n0_ m0_ m1_ hb; (try clear hczB_0 hczB_1 hczZ_0 hczZ_1 hfzZ_0 hfzZ_1); have hczB_0 : w5.cell? ⟨gbB, 0, none⟩ = some (.int .i64 a0_0) := (blk_cell BKB.out 0).trans rfl; have hczB_1 : w5.cell? ⟨gbB, 1, none⟩ = some (.slice A0_1 l0_1.length c0_1) := (blk_cell BKB.out 1).trans rfl; have hczZ_0 : w5.cell? ⟨gbZ, 0, none⟩ = some (.int .i64 0) := (blk_cell BKZ.out 0).trans rfl; have hczZ_1 : w5.cell? ⟨gbZ, 1, none⟩ = some (.slice none 0 0) := (blk_cell BKZ.out 1).trans rfl; have hfzZ_0 := blk_frozen BKZ.out 0; have hfzZ_1 := blk_frozen BKZ.out 1) | (go_at_call 30; refine (contfunc_S.calls (fun s => decide (2000 < (s.size : Int))) 28 #[] eg A3 c3 l3 w5 (fun W x hbw => (post_Send.long_one W x).mono (fun _ _ ⟨he, hb⟩ => ⟨he, below_then hbw hbw.size hb⟩)) (Kd.C_below HR3.out HB.out)).mono ?_; rintro e w6 ⟨rfl, hb⟩; rw [LONG.out]; have n0_ := Aside0.mk (below_step HB.out hb); have m0_ := Aside0.mk (blk_below BKB.out hb); have m1_ := Aside0.mk (blk_below BKZ.out hb); clear HB BKB BKZ; have HB := n0_; have BKB := m0_; have BKZ := m1_; clear n0_ m0_ m1_ hb; (try clear hczB_0 hczB_1 hczZ_0 hczZ_1 hfzZ_0 hfzZ_1); have hczB_0 : w6.cell? ⟨gbB, 0, none⟩ = some (.int .i64 a0_0) := (blk_cell BKB.out 0).trans rfl; have hczB_1 : w6.cell? ⟨gbB, 1, none⟩ = some (.slice A0_1 l0_1.length c0_1) := (blk_cell BKB.out 1).trans rfl; have hczZ_0 : w6.cell? ⟨gbZ, 0, none⟩ = some (.int .i64 0) := (blk_cell BKZ.out 0).trans rfl; have hczZ_1 : w6.cell? ⟨gbZ, 1, none⟩ = some (.slice none 0 0) := (blk_cell BKZ.out 1).trans rfl; have hfzZ_0 := blk_frozen BKZ.out 0; have hfzZ_1 := blk_frozen BKZ.out 1) | (go_at_call 31; refine (api_Letter_31.calls A0_1 c0_1 l0_1 l0_1 w6 (Kd.C_below HR.out HB.out) HC.out (by unfold api_Letter_31.f; rw [if_pos (by have := LM.out; omega)])).mono ?_; rintro e w7 ⟨v7, rfl, ho, hb⟩; have BS := Aside0.mk (Kd.R_bound ho); have NS := Aside0.mk hb.size; have NB := Aside0.mk (blk_lt BKB.out); have NZ := Aside0.mk (blk_lt BKZ.out); have NW := Aside0.mk (below_size HB.out); clear ho; obtain ⟨A7, c7, rfl⟩ := Kd.R_slice BS.out; have hfzB_1 : w7.frozen? ⟨gbB, 1, none⟩ = false := blk_frozen (blk_below BKB.out hb) 1; have n0_ := Aside0.mk (below_step HB.out hb); have m0_ := Aside0.mk (blk_below BKB.out hb); have m1_ := Aside0.mk (blk_below BKZ.out hb); clear HB BKB BKZ; have HB := n0_; have BKB := m0_; have BKZ := m1_; clear n0_ m0_ m1_ hb; (try clear hczB_0 hczB_1 hczZ_0 hczZ_1 hfzZ_0 hfzZ_1); have hczB_0 : w7.cell? ⟨gbB, 0, none⟩ = some (.int .i64 a0_0) := (blk_cell BKB.out 0).trans rfl; have hczB_1 : w7.cell? ⟨gbB, 1, none⟩ = some (.slice A0_1 l0_1.length c0_1) := (blk_cell BKB.out 1).trans rfl; have hczZ_0 : w7.cell? ⟨gbZ, 0, none⟩ = some (.int .i64 0) := (blk_cell BKZ.out 0).trans rfl; have hczZ_1 : w7.cell? ⟨gbZ, 1, none⟩ = some (.slice none 0 0) := (blk_cell BKZ.out 1).trans rfl; have hfzZ_0 := blk_frozen BKZ.out 0; have hfzZ_1 := blk_frozen BKZ.out 1))
    clear hczB_0 hczB_1 hczZ_0 hczZ_1 hfzZ_0 hfzZ_1 hfzB_1 d1 hw1 hw2 IS LONG eg
    have RS := Aside0.mk (Kd.R_mono BS.out (fun _ hk => hk.2.1) : Kd.R k35 35 w7 w6.heap.size (fun k_ => w6.heap.size ≤ k_) (.slice A7 l0_1.length c7) l0_1)
    clear BS
    have hWI : ∃ Rel : Value → Value → World → Prop, Rel = (fun t12 t49 wr => ∃ (i : Nat) (n lost : Int) (l : List S35) (A : Option Addr) (c : Nat), i ≤ l3.length ∧ t49 = .int .i64 (i : Int) ∧ t12 = .int .i64 lost ∧ wr.heap[gbB]? = some (.cells #[.int .i64 n, .slice A l.length c] 24 (0, 0)) ∧ Kd.R k35 35 wr w6.heap.size (fun k_ => w6.heap.size ≤ k_) (.slice A l.length c) l ∧ wr.heap[gbZ]? = some (.cells #[.int .i64 0, .slice none 0 0] 24 (0, 0)) ∧ Below w.heap.size w wr ∧ w6.heap.size ≤ wr.heap.size ∧ l.length < 1099511627776 ∧ sendL a1 a2 n l lost (l3.drop i) = sendL a1 a2 a0_0 l0_1 0 l3) := ⟨_, rfl⟩
    obtain ⟨Rel, hRel⟩ := hWI
    have RL := Aside0.mk hRel
    clear hRel
    go_loopw [12, 49] (fun t12 t49 wr => Rel t12 t49 wr ∧ ∃ i : Nat, t49 = .int .i64 (i : Int)) (fun _ t49 _ => l3.length - (intOf t49).toNat)
    case atStart =>
      refine ⟨?_, 0, rfl⟩
      rw [RL.out]
      have hNB := NB.out
      have hNZ := NZ.out
      exact ⟨0, a0_0, 0, l0_1, A7, c7, Nat.zero_le _, rfl, rfl, blk_put BKB.out 1 _ rfl, Kd.R_far RS.out (p := ⟨gbB, 1, none⟩) (fun k_ hk => by show k_ ≠ gbB; omega) _, blk_far BKZ.out NEZ.out _, below_set HB.out GEB.out, Nat.le_trans NS.out (KeepsWalks.setCell _ _ _).size, LM.out, by rw [List.drop_zero]⟩
    case round =>
      clear BKB BKZ HB RS
      obtain ⟨hrel, _⟩ := hrel
      rw [RL.out] at hrel
      obtain ⟨i, n, lost, l, A, c, hi, rfl, rfl, hb, hr, hz, hbel, hsz, hll, hsend⟩ := hrel
      have X1 := Aside0.mk hb
      have X2 := Aside0.mk hr
      have X3 := Aside0.mk hz
      have X4 := Aside0.mk hbel
      have X5 := Aside0.mk hsz
      have X6 := Aside0.mk hll
      have hzB_0 : wr.cell? ⟨gbB, 0, none⟩ = some (.int .i64 n) := (blk_cell hb 0).trans rfl
      have hzB_1 : wr.cell? ⟨gbB, 1, none⟩ = some (.slice A l.length c) := (blk_cell hb 1).trans rfl
      have hzZ_0 : wr.cell? ⟨gbZ, 0, none⟩ = some (.int .i64 0) := (blk_cell hz 0).trans rfl
      have hzZ_1 : wr.cell? ⟨gbZ, 1, none⟩ = some (.slice none 0 0) := (blk_cell hz 1).trans rfl
      have hfZ_0 := blk_frozen hz 0
      have hfZ_1 := blk_frozen hz 1
      by_cases hlt : i < l3.length
      · obtain ⟨ad3, e3, hs3⟩ := Kd.at_string (Kd.C_below HR3.out hbel) (i : Int) (by omega) (by omega)
        cases e3
        rw [Int.toNat_natCast] at hs3
        have hdr : l3.drop i = rdOf ByteArray.empty l3 (i : Int) :: l3.drop (i + 1) := by
          rw [List.drop_eq_getElem_cons hlt]
          congr 1
          simp [rdOf, List.getD_eq_getElem?_getD, List.getElem?_eq_getElem hlt]
        rw [hdr, sendL] at hsend
        generalize rdOf ByteArray.empty l3 (i : Int) = s at hs3 hsend
        clear hdr
        have hltz : (i : Int) < (l3.length : Int) := by omega
        have r1 := roomL_len a2 l
        have SE := Aside0.mk hsend
        clear hb hr hz hbel hsz hll hsend hzZ_0 hzZ_1 hfZ_0 hfZ_1
        have HROOM := Aside0.mk (post_room.calls gbB n (.slice A l.length c) l a2 (fun k_ => w6.heap.size ≤ k_) w6.heap.size w.heap.size wr X1.out X2.out X6.out NW.out GEB.out X5.out (fun k_ hk => by have := NB.out; omega) (fun k_ hk => Nat.le_trans X5.out hk))
        by_cases h200 : (roomL a2 l).length < 200
        · have d1 : decide (((roomL a2 l).length : Int) < 200) = true := decide_eq_true (by omega)
          have SE2 := SE.out
          rw [if_pos h200] at SE2
          have SE3 := Aside0.mk SE2
          have R2 := Aside0.mk h200
          clear SE SE2 r1
          go_wp2_with (first | (go_at_call 32; refine HROOM.out.mono ?_; rintro e w8 ⟨rfl, v8, hb8, hR8, hB8, hK8⟩; obtain ⟨A8, c8, rfl⟩ := Kd.R_slice hR8; have Y1 := Aside0.mk hb8; have Y2 := Aside0.mk hR8; have Y3 := Aside0.mk ((hK8 gbZ (Nat.lt_of_lt_of_le NZ.out X5.out) NEZ.out (Nat.not_le.2 NZ.out)).trans X3.out); have Y4 := Aside0.mk (X4.out.trans hB8); have Y5 := Aside0.mk (Nat.le_trans X5.out hB8.size); have hyB_0 : w8.cell? ⟨gbB, 0, none⟩ = some (.int .i64 n) := (blk_cell hb8 0).trans rfl; have hyB_1 : w8.cell? ⟨gbB, 1, none⟩ = some (.slice A8 (roomL a2 l).length c8) := (blk_cell hb8 1).trans rfl; have hyF_0 := blk_frozen hb8 0; clear hb8 hR8 hB8 hK8 hzB_0 hzB_1 HROOM) | ((with_reducible refine gate_builtin (b := .append) (xs := #[.tmp 62, .tmp 69]) rfl ?_); at_builtin; refine Kd.R_append k35 (w0 := w8) w6.heap.size rfl (.tmp 62) (.tmp 69) 22 35 (.agg #[.int .i64 0, .int .i64 0, .int .i64 0, .string ⟨#[]⟩]) 40 rfl Try.underlying22 info35 rfl (by decide) (by omega) (.slice A8 (roomL a2 l).length c8) (roomL a2 l) ⟨n, a1, a2, s⟩ [.int .i64 n, .int .i64 a1, .int .i64 a2, .string s] (fun k_ => w6.heap.size ≤ k_) (fun _ => False) rfl rfl (k35_mkM _ _ _ _) (fun _ h => h.elim) (fun k_ hk => Nat.le_trans Y5.out hk) Y2.out (Below.refl _ _) Y5.out (by omega) ?_; intro v9 w9 ho hb hg hat; have hne : ∀ q_, q_ < w6.heap.size → some q_ ≠ (Value.slice A8 (roomL a2 l).length c8).ownBlock := fun q_ hq he => Nat.lt_irrefl _ (Nat.lt_of_lt_of_le hq (Y2.out.1 q_ he.symm)); obtain ⟨A9, c9, e9⟩ := Kd.R_slice ho; rw [List.length_append, List.length_singleton] at e9; subst e9; have U1 := Aside0.mk (blk_grown Y1.out hg (hne gbB NB.out)); have U2 := Aside0.mk ho; have U3 := Aside0.mk (blk_grown Y3.out hg (hne gbZ NZ.out)); have U4 := Aside0.mk (Y4.out.trans (hb.mono NW.out)); have U5 := Aside0.mk (Nat.le_trans Y5.out hb.size); have huB_0 : w9.cell? ⟨gbB, 0, none⟩ = some (.int .i64 n) := (blk_cell U1.out 0).trans rfl; have huB_1 : w9.cell? ⟨gbB, 1, none⟩ = some (.slice A8 (roomL a2 l).length c8) := (blk_cell U1.out 1).trans rfl; have huF_0 := blk_frozen U1.out 0; have huF_1 := blk_frozen U1.out 1; clear ho hb hg hat hne hyB_0 hyB_1 hyF_0))
          go_roundw
          case rel =>
            refine ⟨?_, i + 1, by go_num⟩
            rw [RL.out]
            have hNB := NB.out
            have hNZ := NZ.out
            exact ⟨i + 1, wrap64 (n + 1), wrap64 (lost + (roomN a2 l : Int)), roomL a2 l ++ [⟨n, a1, a2, s⟩], A9, c9, by omega, by go_num, rfl, by rw [List.length_append, List.length_singleton]; exact blk_put (cs := #[.int .i64 n, .slice A9 ((roomL a2 l).length + 1) c9]) (blk_put U1.out 1 _ rfl) 0 _ rfl, by rw [List.length_append, List.length_singleton]; exact Kd.R_far (p := ⟨gbB, 0, none⟩) (Kd.R_far U2.out (p := ⟨gbB, 1, none⟩) (fun k_ hk => by show k_ ≠ gbB; omega) _) (fun k_ hk => by show k_ ≠ gbB; omega) _, blk_far (blk_far U3.out NEZ.out _) NEZ.out _, below_set (below_set U4.out GEB.out) GEB.out, Nat.le_trans U5.out ((KeepsWalks.setCell _ _ _).trans (KeepsWalks.setCell _ _ _)).size, by rw [List.length_append, List.length_singleton]; have := R2.out; omega, SE3.out⟩
          case measure => simp [intOf]; omega
        · have d1 : decide (((roomL a2 l).length : Int) < 200) = false := decide_eq_false (by omega)
          have SE2 := SE.out
          rw [if_neg h200] at SE2
          have SE3 := Aside0.mk SE2
          have R1 := Aside0.mk r1
          clear SE SE2 r1
          go_wp2_with (first | (go_at_call 32; refine HROOM.out.mono ?_; rintro e w8 ⟨rfl, v8, hb8, hR8, hB8, hK8⟩; obtain ⟨A8, c8, rfl⟩ := Kd.R_slice hR8; have Y1 := Aside0.mk hb8; have Y2 := Aside0.mk hR8; have Y3 := Aside0.mk ((hK8 gbZ (Nat.lt_of_lt_of_le NZ.out X5.out) NEZ.out (Nat.not_le.2 NZ.out)).trans X3.out); have Y4 := Aside0.mk (X4.out.trans hB8); have Y5 := Aside0.mk (Nat.le_trans X5.out hB8.size); have hyB_0 : w8.cell? ⟨gbB, 0, none⟩ = some (.int .i64 n) := (blk_cell hb8 0).trans rfl; have hyB_1 : w8.cell? ⟨gbB, 1, none⟩ = some (.slice A8 (roomL a2 l).length c8) := (blk_cell hb8 1).trans rfl; have hyF_0 := blk_frozen hb8 0; clear hb8 hR8 hB8 hK8 hzB_0 hzB_1 HROOM))
          go_roundw
          case rel =>
            refine ⟨?_, i + 1, by go_num⟩
            rw [RL.out]
            have hNB := NB.out
            have hNZ := NZ.out
            exact ⟨i + 1, wrap64 (n + 1), wrap64 (wrap64 (lost + (roomN a2 l : Int)) + 1), roomL a2 l, A8, c8, by omega, by go_num, rfl, blk_put Y1.out 0 _ rfl, Kd.R_far Y2.out (p := ⟨gbB, 0, none⟩) (fun k_ hk => by show k_ ≠ gbB; omega) _, blk_far Y3.out NEZ.out _, below_set Y4.out GEB.out, Nat.le_trans Y5.out (KeepsWalks.setCell _ _ _).size, by have := R1.out; have := X6.out; omega, SE3.out⟩
          case measure => simp [intOf]; omega
      · have hltz : ¬ (i : Int) < (l3.length : Int) := by omega
        rw [List.drop_eq_nil_of_le (by omega), sendL] at hsend
        have SE := Aside0.mk hsend
        clear hb hr hz hbel hsz hll hsend
        go_wp2
        refine bodyPost_ret (results_ctt rfl _ _ gbZ 24 #[.int .i64 n, .slice A l.length c] (0, 0) _ rfl (by refine blk_put (cs := #[.int .i64 n, .slice none 0 0]) ?_ 1 _ rfl; refine blk_put (cs := #[.int .i64 0, .slice none 0 0]) ?_ 0 _ rfl; exact X3.out) Try.underlying24 rfl (by kernel_rfl)) rfl ?_
        have hNZ := NZ.out
        rw [← SE.out]
        exact ⟨_, rfl, Kd.R_mono (Kd.R_lower (Kd.R_far (p := ⟨gbZ, 1, none⟩) (Kd.R_far X2.out (p := ⟨gbZ, 0, none⟩) (fun k_ hk => by show k_ ≠ gbZ; omega) _) (fun k_ hk => by show k_ ≠ gbZ; omega) _) NW.out) (fun _ _ => trivial), below_set (below_set X4.out GEZ.out) GEZ.out⟩

/-! ### watchmanref21_To: function 22 -/
def watchmanref21_To.l0 : Nat → Int → List (S35) → Int → Int → List (S35) → Option ((List (S35)))
  | 0, _, _, _, _, _ => none
  | k + 1, x1, x5, x6, x118000, x118001 => if x6 < (x118001.length : Int) then (if 0 ≤ x6 then (if ((rd_T35 x118001 x6).f2) = x1 then (if x5.length < 3518437208883 then (watchmanref21_To.l0 k x1 (x5 ++ [(⟨(rd_T35 x118001 x6).f0, (rd_T35 x118001 x6).f1, (rd_T35 x118001 x6).f2, (rd_T35 x118001 x6).f3⟩ : S35)]) (wrap64 (x6 + 1)) x118000 x118001) else (none)) else (watchmanref21_To.l0 k x1 x5 (wrap64 (x6 + 1)) x118000 x118001)) else (none)) else (some x5)
def watchmanref21_To.f (k : Nat) (a0_0 : Int) (l0_1 : List (S35)) (a1 : Int) : Option ((List (S35))) := watchmanref21_To.l0 k a1 ([] : List (S35)) 0 a0_0 l0_1
theorem watchmanref21_To.mono_l : ∀ k, (∀ y0 y1 y2 y3 y4, LeO (watchmanref21_To.l0 k y0 y1 y2 y3 y4) (watchmanref21_To.l0 (k + 1) y0 y1 y2 y3 y4))
  | 0 => fun _ _ _ _ _ r h => by simp [watchmanref21_To.l0] at h
  | k + 1 => by
    have ih0 := watchmanref21_To.mono_l k
    · intro y0 y1 y2 y3 y4
      unfold watchmanref21_To.l0
      repeat' first
      | (with_reducible exact ih0 _ _ _ _ _)
      | (with_reducible exact LeO.refl _)
      | (with_reducible exact LeO.none _)
      | (with_reducible refine LeO.ite ?_ ?_)
      | (with_reducible refine LeO.bind ?_ (fun _ => ?_))
      | exact ih0 _ _ _ _ _
      | exact LeO.none _
      | refine LeO.ite ?_ ?_
      | refine LeO.bind ?_ (fun _ => ?_)
theorem watchmanref21_To.mono : ∀ a0 a1 a2 k, LeO (watchmanref21_To.f k a0 a1 a2) (watchmanref21_To.f (k + 1) a0 a1 a2) := by
  intro a0 a1 a2 k
  have ih0 := watchmanref21_To.mono_l k
  unfold watchmanref21_To.f
  repeat' first
      | (with_reducible exact ih0 _ _ _ _ _)
      | (with_reducible exact LeO.refl _)
      | (with_reducible exact LeO.none _)
      | (with_reducible refine LeO.ite ?_ ?_)
      | (with_reducible refine LeO.bind ?_ (fun _ => ?_))
      | exact ih0 _ _ _ _ _
      | exact LeO.none _
      | refine LeO.ite ?_ ?_
      | refine LeO.bind ?_ (fun _ => ?_)
set_option maxHeartbeats 8000000 in
set_option maxRecDepth 100000 in
theorem watchmanref21_To.calls (k : Nat) (a0_0 : Int) (A0_1 : Option Addr) (c0_1 : Nat) (l0_1 : List (S35)) (a1 : Int) (r : List (S35)) (w : World) (hr0_1 : Kd.C k35 w A0_1 l0_1.length l0_1) (hc0_1 : l0_1.length ≤ c0_1) (h : watchmanref21_To.f k a0_0 l0_1 a1 = some r) :
    Calls Try.prog 22 #[.agg #[.int .i64 a0_0, .slice A0_1 l0_1.length c0_1], .int .i64 a1] w fun e w' => ∃ v0_ : Value, e = .returned (v0_) ∧ Kd.R k35 35 w' w.heap.size (fun _ => True) v0_ r ∧ Below w.heap.size w w' := by
  have hu24 := Try.underlying24
  have hu35 := Try.underlying35
  have HR0_1 := Aside0.mk hr0_1
  have HC0_1 := Aside0.mk hc0_1
  clear hr0_1 hc0_1
  have HB := Aside0.mk (Below.refl w.heap.size w)
  have H : (watchmanref21_To.l0 k a1 ([] : List (S35)) 0 a0_0 l0_1) = some r := h
  clear h
  have H' := Aside0.mk H
  clear H
  go_enter Try.func22, Try.ntmps22
  go_wp2_with (first | ((with_reducible refine gate_dst (N := 2) rfl ?_); refine box_event ?hg (N := 2) ?hd (cs := #[.int .i64 a0_0, .slice A0_1 l0_1.length c0_1]) (t := 24) ?hr ?_; (case hd => rfl); (case hg => rfl); (case hr => first | (go_simp; done) | (go_simp; rfl)); intro gb117 hg w3 hbox hb; have BK117 := Aside0.mk (hbox); have GW117 := Aside0.mk ((by rw [hg]; exact (below_size HB.out) : w.heap.size ≤ gb117)); have GE117 := Aside0.mk ((by rw [hg]; exact (below_size HB.out) : w.heap.size ≤ gb117)); replace HB := Aside0.mk (below_step HB.out hb); clear hb hbox hg))
  go_loopg [5, 6] k (fun kq v5 v6 w' => ∃ (x5_1 : List (S35)) (x6_1 : Int), v6 = .int .i64 x6_1 ∧ Aside0 (watchmanref21_To.l0 kq a1 x5_1 x6_1 a0_0 l0_1 = some r) ∧ Aside0 (kq ≤ k) ∧ Aside0 (Kd.R k35 35 w' w.heap.size (fun _ => True) v5 x5_1) ∧ Aside0 (w'.heap[gb117]? = some (.cells #[.int .i64 a0_0, (.slice A0_1 l0_1.length c0_1)] 24 (0, 0))) ∧ Aside0 (Below w.heap.size w w'))
  case atStart => exact ⟨(([] : List (S35))), (0), (by first | rfl | (simp; done) | (simp [*]; done)), H', ⟨Nat.le_refl _⟩, ⟨by first | exact Kd.R_nil _ _ _ _ _ | exact Kd.N_nil _ _ _ _ _ | exact Kd.V_nil _ _ _ _ _ | exact Kd.Q_nil _ _ _ _ _ | exact Kd.S_nil _ _ _ _ _⟩, ⟨by (with_reducible repeat (first | refine blk_drewN ?_ _ | refine blk_drew ?_ | refine blk_alloc ?_ _)); exact BK117.out⟩, ⟨by repeat (with_reducible first | exact HB.out | apply pw_below_drewN | apply below_drew1 | refine below_set ?_ GE117.out)⟩⟩
  case round =>
    clear H'
    try clear c2
    try clear p2
    obtain ⟨x5_1, x6_1, rfl, HA, HK1, HO_5, BK117, HB⟩ := hrel
    cases gk with
    | zero => exact absurd HA.out (by simp [watchmanref21_To.l0])
    | succ k1 =>
      have H := HA.out
      clear HA
      simp only [watchmanref21_To.l0] at H
      by_cases c4 : x6_1 < (l0_1.length : Int)
      · rw [if_pos c4] at H
        have c4b0 : decide (x6_1 < (l0_1.length : Int)) = true := decide_eq_true c4
        clear c4
        by_cases c5 : 0 ≤ x6_1
        · rw [if_pos c5] at H
          have c5b0 : decide (0 ≤ x6_1) = true := decide_eq_true c5
          clear c5
          by_cases c6 : ((rd_T35 l0_1 x6_1).f2) = a1
          · rw [if_pos c6] at H
            have c6b0 : (((rd_T35 l0_1 x6_1).f2) == a1) = true := beq_iff_eq.mpr c6
            have c6b1 : (((rd_T35 l0_1 x6_1).f2) != a1) = false := bne_eq_false_iff_eq.mpr c6
            clear c6
            by_cases c7 : x5_1.length < 3518437208883
            · rw [if_pos c7] at H
              have LMc7 := Aside0.mk c7
              clear c7
              obtain ⟨y120, hy120⟩ : ∃ y_ : List (S35), y_ = (x5_1 ++ [(⟨(rd_T35 l0_1 x6_1).f0, (rd_T35 l0_1 x6_1).f1, (rd_T35 l0_1 x6_1).f2, (rd_T35 l0_1 x6_1).f3⟩ : S35)]) := ⟨_, rfl⟩
              replace H : (watchmanref21_To.l0 k1 a1 y120 (wrap64 (x6_1 + 1)) a0_0 l0_1) = some r := by first | (rw [hy120]; with_reducible exact H) | (have H2_ := (Option.bind_some _ _).symm.trans H; rw [hy120]; with_reducible exact H2_) | (have H2_ := (Option.bind_some _ _).symm.trans H; with_reducible exact H2_) | with_reducible exact H | (rw [hy120]; exact H) | exact H
              have Ny120 := Aside0.mk hy120
              clear hy120
              have H' := Aside0.mk H
              clear H
              have hcz8_0 : wr.cell? ⟨gb117, 0, none⟩ = some (.int .i64 a0_0) := (blk_cell BK117.out 0).trans rfl
              have hcz8_1 : wr.cell? ⟨gb117, 1, none⟩ = some (.slice A0_1 l0_1.length c0_1) := (blk_cell BK117.out 1).trans rfl
              have hfz8_0 := blk_frozen BK117.out 0
              have hfz8_1 := blk_frozen BK117.out 1
              have p118 : 0 ≤ (x6_1 : Int) := of_decide_eq_true (by first | (with_reducible assumption) | assumption)
              have q118 : x6_1 < (l0_1.length : Int) := of_decide_eq_true (by first | (with_reducible assumption) | assumption)
              obtain ⟨ad118, e118, hx118_0, hx118_1, hx118_2, hx118_3⟩ := at_T35 HR0_1.out x6_1 p118 q118
              cases e118
              replace hx118_0 := (HB.out.cell (World.block_lt_of_cell? w _ hx118_0)).trans hx118_0
              replace hx118_1 := (HB.out.cell (World.block_lt_of_cell? w _ hx118_1)).trans hx118_1
              replace hx118_2 := (HB.out.cell (World.block_lt_of_cell? w _ hx118_2)).trans hx118_2
              replace hx118_3 := (HB.out.cell (World.block_lt_of_cell? w _ hx118_3)).trans hx118_3
              replace p118 := eq_true p118
              replace q118 := eq_true q118
              have p119 : 0 ≤ (x6_1 : Int) := of_decide_eq_true (by first | (with_reducible assumption) | assumption)
              have q119 : x6_1 < (l0_1.length : Int) := of_decide_eq_true (by first | (with_reducible assumption) | assumption)
              obtain ⟨ad119, e119, hx119_0, hx119_1, hx119_2, hx119_3⟩ := at_T35 HR0_1.out x6_1 p119 q119
              obtain rfl : ad118 = ad119 := (by injection e119)
              replace hx119_0 := (HB.out.cell (World.block_lt_of_cell? w _ hx119_0)).trans hx119_0
              replace hx119_1 := (HB.out.cell (World.block_lt_of_cell? w _ hx119_1)).trans hx119_1
              replace hx119_2 := (HB.out.cell (World.block_lt_of_cell? w _ hx119_2)).trans hx119_2
              replace hx119_3 := (HB.out.cell (World.block_lt_of_cell? w _ hx119_3)).trans hx119_3
              replace p119 := eq_true p119
              replace q119 := eq_true q119
              go_wp2_with (first | ((with_reducible refine gate_builtin (b := .append) (xs := #[.tmp 22, .tmp 28]) rfl ?_); at_builtin; refine Kd.R_append k35 (w0 := w) w.heap.size rfl (.tmp 22) (.tmp 28) 22 35 (.agg #[(.int .i64 0), (.int .i64 0), (.int .i64 0), (.string ⟨#[]⟩)]) 40 rfl Try.underlying22 info35 rfl (by decide) (by omega) u5 x5_1 (⟨(rd_T35 l0_1 x6_1).f0, (rd_T35 l0_1 x6_1).f1, (rd_T35 l0_1 x6_1).f2, (rd_T35 l0_1 x6_1).f3⟩ : S35) [.int .i64 ((rd_T35 l0_1 x6_1).f0), .int .i64 ((rd_T35 l0_1 x6_1).f1), .int .i64 ((rd_T35 l0_1 x6_1).f2), .string ((rd_T35 l0_1 x6_1).f3)] (fun _ => True) (fun _ => False) rfl rfl ?aP (fun _ hk => hk.elim) ?aF ?aO ?aB ?aS ?aL ?_; (case aP => exact k35_mkM _ _ _ (⟨(rd_T35 l0_1 x6_1).f0, (rd_T35 l0_1 x6_1).f1, (rd_T35 l0_1 x6_1).f2, (rd_T35 l0_1 x6_1).f3⟩ : S35)); (case aB => exact (by repeat (with_reducible first | exact HB.out | apply pw_below_drewN | apply below_drew1 | refine below_set ?_ GE117.out))); (case aF => exact (fun _ _ => trivial)); (case aO => exact (HO_5.out)); (case aS => exact (below_size (by repeat (with_reducible first | exact HB.out | apply pw_below_drewN | apply below_drew1 | refine below_set ?_ GE117.out)))); (case aL => have := LMc7.out; omega); intro v121 w9 ho hb hg hat; rw [← Ny120.out] at ho; replace BK117 := Aside0.mk (blk_grown (g := gb117) (o := .cells #[.int .i64 a0_0, .slice (some ad118) l0_1.length c0_1] 24 (0, 0)) BK117.out hg (Kd.R_ne HO_5.out BK117.out (by decide))); replace HB := Aside0.mk (hb); have HO122 := Aside0.mk (ho); clear HO_5; clear ho hb hg hat))
              go_roundg k1
              case measure => have := HK1.out; omega
              case rel => exact ⟨(y120), (wrap64 (x6_1 + 1)), (by first | rfl | (simp; done) | (simp [*]; done)), H', ⟨by have := HK1.out; omega⟩, ⟨by (with_reducible repeat (first | apply Kd.R_alloc | apply Kd.R_drewN | apply Kd.R_drew)); exact HO122.out⟩, ⟨by (with_reducible repeat (first | refine blk_drewN ?_ _ | refine blk_drew ?_ | refine blk_alloc ?_ _)); exact BK117.out⟩, ⟨by repeat (with_reducible first | exact HB.out | apply pw_below_drewN | apply below_drew1 | refine below_set ?_ GE117.out)⟩⟩
            · rw [if_neg c7] at H
              exact absurd H (by simp)
          · rw [if_neg c6] at H
            have c6b0 : (((rd_T35 l0_1 x6_1).f2) == a1) = false := beq_eq_false_iff_ne.mpr c6
            have c6b1 : (((rd_T35 l0_1 x6_1).f2) != a1) = true := bne_iff_ne.mpr c6
            have H' := Aside0.mk H
            clear H
            have hcz10_0 : wr.cell? ⟨gb117, 0, none⟩ = some (.int .i64 a0_0) := (blk_cell BK117.out 0).trans rfl
            have hcz10_1 : wr.cell? ⟨gb117, 1, none⟩ = some (.slice A0_1 l0_1.length c0_1) := (blk_cell BK117.out 1).trans rfl
            have hfz10_0 := blk_frozen BK117.out 0
            have hfz10_1 := blk_frozen BK117.out 1
            have p118 : 0 ≤ (x6_1 : Int) := of_decide_eq_true (by first | (with_reducible assumption) | assumption)
            have q118 : x6_1 < (l0_1.length : Int) := of_decide_eq_true (by first | (with_reducible assumption) | assumption)
            obtain ⟨ad118, e118, hx118_0, hx118_1, hx118_2, hx118_3⟩ := at_T35 HR0_1.out x6_1 p118 q118
            cases e118
            replace hx118_0 := (HB.out.cell (World.block_lt_of_cell? w _ hx118_0)).trans hx118_0
            replace hx118_1 := (HB.out.cell (World.block_lt_of_cell? w _ hx118_1)).trans hx118_1
            replace hx118_2 := (HB.out.cell (World.block_lt_of_cell? w _ hx118_2)).trans hx118_2
            replace hx118_3 := (HB.out.cell (World.block_lt_of_cell? w _ hx118_3)).trans hx118_3
            replace p118 := eq_true p118
            replace q118 := eq_true q118
            go_wp2
            go_roundg k1
            case measure => have := HK1.out; omega
            case rel => exact ⟨(x5_1), (wrap64 (x6_1 + 1)), (by first | rfl | (simp; done) | (simp [*]; done)), H', ⟨by have := HK1.out; omega⟩, ⟨by (with_reducible repeat (first | apply Kd.R_alloc | apply Kd.R_drewN | apply Kd.R_drew)); exact HO_5.out⟩, ⟨by (with_reducible repeat (first | refine blk_drewN ?_ _ | refine blk_drew ?_ | refine blk_alloc ?_ _)); exact BK117.out⟩, ⟨by repeat (with_reducible first | exact HB.out | apply pw_below_drewN | apply below_drew1 | refine below_set ?_ GE117.out)⟩⟩
        · rw [if_neg c5] at H
          exact absurd H (by simp)
      · rw [if_neg c4] at H
        have c4b0 : decide (x6_1 < (l0_1.length : Int)) = false := decide_eq_false c4
        clear c4
        obtain rfl := Option.some.inj H
        have hcz11_0 : wr.cell? ⟨gb117, 0, none⟩ = some (.int .i64 a0_0) := (blk_cell BK117.out 0).trans rfl
        have hcz11_1 : wr.cell? ⟨gb117, 1, none⟩ = some (.slice A0_1 l0_1.length c0_1) := (blk_cell BK117.out 1).trans rfl
        have hfz11_0 := blk_frozen BK117.out 0
        have hfz11_1 := blk_frozen BK117.out 1
        go_wp2
        go_ret
        exact ⟨_, by first | rfl | (simp [errW_none, errW_some] <;> rfl) | (simp [*, errW_none, errW_some] <;> rfl), by (with_reducible repeat (first | apply Kd.R_alloc | apply Kd.R_drewN | apply Kd.R_drew)); exact HO_5.out, by repeat (with_reducible first | exact HB.out | apply pw_below_drewN | apply below_drew1 | refine below_set ?_ GE117.out)⟩

end Go.Proofs.Ytofbkpdpgmjllaa.F
