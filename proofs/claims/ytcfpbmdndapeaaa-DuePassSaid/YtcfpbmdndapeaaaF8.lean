-- Written by a program of this session (xprint.py), out of the translation and of contracts proved by hand.
import Derived.Test.YtcfpbmdndapeaaaF0
namespace Go.Proofs.Ytcfpbmdndapeaaa.F
open Go.RowKit Go.Proofs.YtcfpbmdndapeaaaV.PrintWords Go.Proofs.YtcfpbmdndapeaaaV.PrintLast Go.Proofs.YtcfpbmdndapeaaaV.PrintMore
attribute [local go_sem] max2_int min2_int max_two min_two max_three min_three max_four min_four   -- for this text's walks alone
set_option linter.unusedVariables false
set_option linter.unusedSimpArgs false

/-! ### api_Alarm_58: function 58 -/
def ix_Alarm (p : S28 → Bool) (l : List S28) : Int := match l.findIdx? p with | some i => (i : Int) | none => -1
theorem ix_Alarm_hit (p : S28 → Bool) (l : List S28) (i : Nat) (hi : i < l.length) (h : p (rd_T28 l (i : Int)) = true) (hn : ∀ j, j < i → p (rd_T28 l (j : Int)) = false) : ix_Alarm p l = (i : Int) := by
 have e : l.findIdx? p = some i := by
  rw [List.findIdx?_eq_some_iff_getElem]
  refine ⟨hi, ?_, fun j hj => ?_⟩
  ·simpa [rd_T28, List.getD_eq_getElem?_getD, List.getElem?_eq_getElem hi] using h
  ·have := hn j hj
   simpa [rd_T28, List.getD_eq_getElem?_getD, List.getElem?_eq_getElem (show j < l.length by omega)] using this
 unfold ix_Alarm; rw [e]
theorem ix_Alarm_miss (p : S28 → Bool) (l : List S28) (hn : ∀ j, j < l.length → p (rd_T28 l (j : Int)) = false) : ix_Alarm p l = -1 := by
 have e : l.findIdx? p = none := by
  rw [List.findIdx?_eq_none_iff]
  intro x hx
  obtain ⟨j, hj, rfl⟩ := List.mem_iff_getElem.1 hx
  have := hn j hj
  simpa [rd_T28, List.getD_eq_getElem?_getD, List.getElem?_eq_getElem hj] using this
 unfold ix_Alarm; rw [e]
set_option maxHeartbeats 8000000 in
set_option maxRecDepth 100000 in
theorem ixfunc_Alarm.calls (p : S28 → Bool) (g : Nat) (lb : Array Value) (eg : ∀ args w, (callFunc g args).run Try.prog w = .ok (.enter g args) w) (A0 : Option Addr) (c0 : Nat) (l0 : List S28) (w : World)
 (hp : ∀ (W : World) (x : S28), Below w.heap.size w W → Calls Try.prog g (#[.agg #[.int .i64 x.f0.f0, .int .i64 x.f0.f1, .int .i64 x.f1, .int .i64 x.f2, .int .i64 x.f3, .int .i64 x.f4]] ++ lb) W fun e w' => e = .returned (.bool (p x)) ∧ Below w.heap.size w w')
 (hr0 : Kd.C k28 w A0 l0.length l0) :
 Calls Try.prog 58 #[.slice A0 l0.length c0, .func (.func g) #[] lb] w fun e w' => e = .returned (.int .i64 (ix_Alarm p l0)) ∧ Below w.heap.size w w' := by
 have hu_ := Try.underlying28
 have hbig := hr0.2.1
 have HR0 := Aside0.mk hr0
 have HP := Aside0.mk hp
 clear hr0 hp
 go_enter Try.func58, Try.ntmps58
 go_wp2
 go_loopg [5, 8] l0.length (fun gg _ s8 wr => ∃ kk : Nat, kk ≤ l0.length ∧ l0.length - kk ≤ gg ∧ s8 = .int .i64 kk ∧ Aside0 (Below w.heap.size w wr) ∧ Aside0 (∀ j, j < kk → p (rd_T28 l0 (j : Int)) = false))
 case atStart => exact ⟨0, Nat.zero_le _, by omega, rfl, ⟨Below.refl _ w⟩, ⟨fun j hj => absurd hj (Nat.not_lt_zero _)⟩⟩
 case round =>
  obtain ⟨kk, hkk, hg, rfl, BW, A⟩ := hrel
  by_cases hlt : kk < l0.length
  ·have hltz : (kk : Int) < (l0.length : Int) := by omega
   obtain ⟨ad, e0, hx0, hx1, hx2, hx3, hx4, hx5⟩ := at_T28 (Kd.C_below HR0.out BW.out) (kk : Int) (by omega) hltz
   cases e0
   simp only [Int.toNat_natCast] at hx0 hx1 hx2 hx3 hx4 hx5
   have hcall := HP.out wr (rd_T28 l0 (kk : Int))  BW.out
   generalize hy_ : rd_T28 l0 (kk : Int) = y_ at hcall hx0 hx1 hx2 hx3 hx4 hx5
   have Y := Aside0.mk hy_
   clear hy_
   cases hq : p y_ with
   | true =>
    rw [hq] at hcall
    have Q := Aside0.mk hq
    clear hq
    go_wp2_with (go_at_fn g; refine hcall.mono ?_; rintro e w' ⟨rfl, hb'⟩)
    go_ret
    exact ⟨by rw [ix_Alarm_hit p l0 kk hlt (by rw [Y.out]; exact Q.out) A.out]; rfl, hb'⟩
   | false =>
    rw [hq] at hcall
    have Q := Aside0.mk hq
    clear hq
    go_wp2_with (go_at_fn g; refine hcall.mono ?_; rintro e w' ⟨rfl, hb'⟩)
    go_roundg (l0.length - (kk + 1))
    case measure => omega
    case rel =>
     refine ⟨kk + 1, by omega, by omega, by go_num, ⟨hb'⟩, ⟨fun j hj => ?_⟩⟩
     by_cases e : j = kk
     ·subst e; rw [Y.out]; exact Q.out
     ·exact A.out j (by omega)
  ·have hltz : ¬ (kk : Int) < (l0.length : Int) := by omega
   go_wp2
   go_ret
   exact ⟨by rw [ix_Alarm_miss p l0 (fun j hj => A.out j (by omega))]; rfl, BW.out⟩

/-! ### board_Get: function 21 -/
def board_Get.f (a0_0 : Int) (a0_1 : Int) (l0_2 : List S28) (a1_0 : Int) (a1_1 : Int) : Option (Int × Int × Int × Int × Int × Int × Bool) := if ix_Alarm (fun x => decide (x.f0.f0 = a1_0) && decide (x.f0.f1 = a1_1)) l0_2 < 0 then some (0, 0, 0, 0, 0, 0, false) else some ((rd_T28 l0_2 (ix_Alarm (fun x => decide (x.f0.f0 = a1_0) && decide (x.f0.f1 = a1_1)) l0_2)).f0.f0, (rd_T28 l0_2 (ix_Alarm (fun x => decide (x.f0.f0 = a1_0) && decide (x.f0.f1 = a1_1)) l0_2)).f0.f1, (rd_T28 l0_2 (ix_Alarm (fun x => decide (x.f0.f0 = a1_0) && decide (x.f0.f1 = a1_1)) l0_2)).f1, (rd_T28 l0_2 (ix_Alarm (fun x => decide (x.f0.f0 = a1_0) && decide (x.f0.f1 = a1_1)) l0_2)).f2, (rd_T28 l0_2 (ix_Alarm (fun x => decide (x.f0.f0 = a1_0) && decide (x.f0.f1 = a1_1)) l0_2)).f3, (rd_T28 l0_2 (ix_Alarm (fun x => decide (x.f0.f0 = a1_0) && decide (x.f0.f1 = a1_1)) l0_2)).f4, true)
theorem ix_Alarm_lt (p : S28 → Bool) (l : List S28) (h : ¬ ix_Alarm p l < 0) : ix_Alarm p l < (l.length : Int) := by
 unfold ix_Alarm at h ⊢
 cases e : l.findIdx? p with
 | none => rw [e] at h; exact absurd h (by decide)
 | some i =>
  rw [List.findIdx?_eq_some_iff_getElem] at e
  obtain ⟨hi, _⟩ := e
  show (i : Int) < _
  omega
theorem board_Get.one (s0 s1 : Int) (B : Nat) (w : World) (hB : B < w.heap.size) (hcell0 : w.cell? ⟨B, 0, none⟩ = some (.int .i64 s0)) (hcell1 : w.cell? ⟨B, 1, none⟩ = some (.int .i64 s1)) (W : World) (x : S28) (hb : Below w.heap.size w W) :
 Calls Try.prog 59 (#[.agg #[.int .i64 x.f0.f0, .int .i64 x.f0.f1, .int .i64 x.f1, .int .i64 x.f2, .int .i64 x.f3, .int .i64 x.f4]] ++ #[.pointer (some ⟨B, 0, none⟩)]) W fun e w' => e = .returned (.bool (decide (x.f0.f0 = s0) && decide (x.f0.f1 = s1))) ∧ Below w.heap.size w w' := by
 have hc0 : W.cell? ⟨B, 0, none⟩ = some (.int .i64 s0) := (hb.cell (p := ⟨B, 0, none⟩) hB).trans hcell0
 have hc1 : W.cell? ⟨B, 1, none⟩ = some (.int .i64 s1) := (hb.cell (p := ⟨B, 1, none⟩) hB).trans hcell1
 have hBW : B < W.heap.size := Nat.lt_of_lt_of_le hB hb.size
 have hne : B ≠ W.heap.size := by omega
 obtain ⟨⟨x0, x1⟩, x2, x3, x4, x5⟩ := x
 show Calls Try.prog 59 #[.agg #[.int .i64 x0, .int .i64 x1, .int .i64 x2, .int .i64 x3, .int .i64 x4, .int .i64 x5], .pointer (some ⟨B, 0, none⟩)] W _
 clear hcell0 hcell1
 by_cases h0 : x0 = s0
 ·by_cases h1 : x1 = s1
  ·subst h0; subst h1
   go_enter Try.func59, Try.ntmps59
   go_wp2
   all_goals (go_ret; exact ⟨by first | (simp_all; done) | (simp_all; rfl), hb.alloc hb.size _⟩)
  ·have d1 : decide (x1 = s1) = false := decide_eq_false h1
   have d2 : (x1 == s1) = false := by rw [beq_eq_false_iff_ne]; exact h1
   subst h0
   go_enter Try.func59, Try.ntmps59
   go_wp2
   all_goals (go_ret; exact ⟨by first | (simp_all; done) | (simp_all; rfl), hb.alloc hb.size _⟩)
 ·have d1 : decide (x0 = s0) = false := decide_eq_false h0
  have d2 : (x0 == s0) = false := by rw [beq_eq_false_iff_ne]; exact h0
  go_enter Try.func59, Try.ntmps59
  go_wp2
  all_goals (go_ret; exact ⟨by first | (simp_all; done) | (simp_all; rfl), hb.alloc hb.size _⟩)
set_option maxHeartbeats 8000000 in
set_option maxRecDepth 100000 in
theorem board_Get.calls (a0_0 : Int) (a0_1 : Int) (A0_2 : Option Addr) (c0_2 : Nat) (l0_2 : List S28) (a1_0 : Int) (a1_1 : Int) (r1 : Int) (r2 : Int) (r3 : Int) (r4 : Int) (r5 : Int) (r6 : Int) (r7 : Bool) (w : World) (hr0_2 : Kd.C k28 w A0_2 l0_2.length l0_2) (hc0_2 : l0_2.length ≤ c0_2) (h : board_Get.f a0_0 a0_1 l0_2 a1_0 a1_1 = some (r1, r2, r3, r4, r5, r6, r7)) :
 Calls Try.prog 21 #[.agg #[.int .i64 a0_0, .int .i64 a0_1, .slice A0_2 l0_2.length c0_2], .agg #[.int .i64 a1_0, .int .i64 a1_1]] w fun e w' => e = .returned (.tuple #[.agg #[.int .i64 r1, .int .i64 r2, .int .i64 r3, .int .i64 r4, .int .i64 r5, .int .i64 r6], .bool r7]) ∧ Below w.heap.size w w' := by
 have hu24 := Try.underlying24
 have hu26 := Try.underlying26
 have hu28 := Try.underlying28
 have eg : ∀ args w, (callFunc 59 args).run Try.prog w = .ok (.enter 59 args) w := enters_of Try.func59 (by kernel_rfl) rfl
 have HR := Aside0.mk hr0_2
 have HC := Aside0.mk hc0_2
 clear hr0_2 hc0_2
 have HB := Aside0.mk (Below.refl w.heap.size w)
 unfold board_Get.f at h
 generalize hq : ix_Alarm (fun x => decide (x.f0.f0 = a1_0) && decide (x.f0.f1 = a1_1)) l0_2 = q at h
 have Q := Aside0.mk hq
 by_cases c : q < 0
 ·rw [if_pos c] at h
  have c0 : decide (q < 0) = true := decide_eq_true c
  simp only [Option.some.injEq, Prod.mk.injEq] at h
  obtain ⟨rfl, rfl, rfl, rfl, rfl, rfl, rfl⟩ := h
  clear c hq
  go_enter Try.func21, Try.ntmps21
  go_wp2_with (first | ((with_reducible refine gate_dst (N := 2) rfl ?_); refine box_event ?hg (N := 2) ?hd (cs := #[.int .i64 a0_0, .int .i64 a0_1, .slice A0_2 l0_2.length c0_2]) (t := 24) ?hr ?_; (case hd => rfl); (case hg => rfl); (case hr => first | (go_simp; done) | (go_simp; rfl)); intro gbB hg w3 hbox hb; have n0_ := Aside0.mk (below_step HB.out hb); have n1_ := Aside0.mk hbox; have n2_ := Aside0.mk ((by rw [hg]; exact (below_size HB.out)) : w.heap.size ≤ gbB); clear HB; have HB := n0_; have BKB := n1_; have GEB := n2_; clear n0_ n1_ n2_; clear hb hbox hg) | ((with_reducible refine gate_dst (N := 3) rfl ?_); refine box_event ?hg (N := 3) ?hd (cs := #[.int .i64 a1_0, .int .i64 a1_1]) (t := 26) ?hr ?_; (case hd => rfl); (case hg => rfl); (case hr => first | (go_simp; done) | (go_simp; rfl)); intro gbS hg w4 hbox hb; have n0_ := Aside0.mk (below_step HB.out hb); have n1_ := Aside0.mk hbox; have n2_ := Aside0.mk ((by rw [hg]; exact (below_size HB.out)) : w.heap.size ≤ gbS); have m0_ := Aside0.mk (blk_below BKB.out hb); clear HB; clear BKB; have HB := n0_; have BKS := n1_; have GES := n2_; have BKB := m0_; clear n0_ n1_ n2_ m0_; clear hb hbox hg) | ((with_reducible refine gate_dst (N := 4) rfl ?_); refine box_event ?hg (N := 4) ?hd (cs := #[.int .i64 0, .int .i64 0, .int .i64 0, .int .i64 0, .int .i64 0, .int .i64 0]) (t := 28) ?hr ?_; (case hd => rfl); (case hg => rfl); (case hr => first | (go_simp; done) | (go_simp; rfl)); intro gbZ hg w5 hbox hb; have n0_ := Aside0.mk (below_step HB.out hb); have n1_ := Aside0.mk hbox; have n2_ := Aside0.mk ((by rw [hg]; exact (below_size HB.out)) : w.heap.size ≤ gbZ); have m0_ := Aside0.mk (blk_below BKB.out hb); have m1_ := Aside0.mk (blk_below BKS.out hb); clear HB; clear BKB; clear BKS; have HB := n0_; have BKZ := n1_; have GEZ := n2_; have BKB := m0_; have BKS := m1_; clear n0_ n1_ n2_ m0_ m1_; clear hb hbox hg; have hczB_0 : w5.cell? ⟨gbB, 0, none⟩ = some (.int .i64 a0_0) := (blk_cell BKB.out 0).trans rfl; have hczB_1 : w5.cell? ⟨gbB, 1, none⟩ = some (.int .i64 a0_1) := (blk_cell BKB.out 1).trans rfl; have hczB_2 : w5.cell? ⟨gbB, 2, none⟩ = some (.slice A0_2 l0_2.length c0_2) := (blk_cell BKB.out 2).trans rfl; have HCON := Aside0.mk (ixfunc_Alarm.calls (fun x => decide (x.f0.f0 = a1_0) && decide (x.f0.f1 = a1_1)) 59 #[.pointer (some ⟨gbS, 0, none⟩)] eg A0_2 c0_2 l0_2 w5 (fun W x hb => board_Get.one a1_0 a1_1 gbS w5 (blk_lt BKS.out) ((blk_cell BKS.out 0).trans rfl) ((blk_cell BKS.out 1).trans rfl) W x hb) (Kd.C_below HR.out HB.out))) | (go_at_call 58; refine HCON.out.mono ?_; rintro e w6 ⟨rfl, hb⟩; rw [Q.out]; have n0_ := Aside0.mk (below_step HB.out hb); have m0_ := Aside0.mk (blk_below BKB.out hb); have m1_ := Aside0.mk (blk_below BKZ.out hb); clear HCON HB BKB BKZ; have HB := n0_; have BKB := m0_; have BKZ := m1_; clear n0_ m0_ m1_ hb; have hczZ_0 : w6.cell? ⟨gbZ, 0, none⟩ = some (.int .i64 0) := (blk_cell BKZ.out 0).trans rfl; have hczZ_1 : w6.cell? ⟨gbZ, 1, none⟩ = some (.int .i64 0) := (blk_cell BKZ.out 1).trans rfl; have hczZ_2 : w6.cell? ⟨gbZ, 2, none⟩ = some (.int .i64 0) := (blk_cell BKZ.out 2).trans rfl; have hczZ_3 : w6.cell? ⟨gbZ, 3, none⟩ = some (.int .i64 0) := (blk_cell BKZ.out 3).trans rfl; have hczZ_4 : w6.cell? ⟨gbZ, 4, none⟩ = some (.int .i64 0) := (blk_cell BKZ.out 4).trans rfl; have hczZ_5 : w6.cell? ⟨gbZ, 5, none⟩ = some (.int .i64 0) := (blk_cell BKZ.out 5).trans rfl; have hfzZ_0 := blk_frozen BKZ.out 0; have hfzZ_1 := blk_frozen BKZ.out 1; have hfzZ_2 := blk_frozen BKZ.out 2; have hfzZ_3 := blk_frozen BKZ.out 3; have hfzZ_4 := blk_frozen BKZ.out 4; have hfzZ_5 := blk_frozen BKZ.out 5))
  refine bodyPost_ret (results_ct rfl _ _ gbZ 28 #[.int .i64 0, .int .i64 0, .int .i64 0, .int .i64 0, .int .i64 0, .int .i64 0] (0, 0) _ rfl (by refine blk_put (cs := #[.int .i64 0, .int .i64 0, .int .i64 0, .int .i64 0, .int .i64 0, .int .i64 0]) ?_ 5 _ rfl; refine blk_put (cs := #[.int .i64 0, .int .i64 0, .int .i64 0, .int .i64 0, .int .i64 0, .int .i64 0]) ?_ 4 _ rfl; refine blk_put (cs := #[.int .i64 0, .int .i64 0, .int .i64 0, .int .i64 0, .int .i64 0, .int .i64 0]) ?_ 3 _ rfl; refine blk_put (cs := #[.int .i64 0, .int .i64 0, .int .i64 0, .int .i64 0, .int .i64 0, .int .i64 0]) ?_ 2 _ rfl; refine blk_put (cs := #[.int .i64 0, .int .i64 0, .int .i64 0, .int .i64 0, .int .i64 0, .int .i64 0]) ?_ 1 _ rfl; refine blk_put (cs := #[.int .i64 0, .int .i64 0, .int .i64 0, .int .i64 0, .int .i64 0, .int .i64 0]) ?_ 0 _ rfl; exact BKZ.out) Try.underlying28 rfl (by kernel_rfl)) rfl ?_
  exact ⟨by first | rfl | (simp; done) | (simp [*]; done), by repeat (with_reducible first | exact HB.out | refine below_set ?_ GEZ.out)⟩
 ·rw [if_neg c] at h
  have c0 : decide (q < 0) = false := decide_eq_false c
  have c1 : decide (0 ≤ q) = true := decide_eq_true (by omega)
  have hlt : q < (l0_2.length : Int) := by rw [← hq]; exact ix_Alarm_lt _ _ (by rw [hq]; exact c)
  have c2 : decide (q < (l0_2.length : Int)) = true := decide_eq_true hlt
  simp only [Option.some.injEq, Prod.mk.injEq] at h
  obtain ⟨rfl, rfl, rfl, rfl, rfl, rfl, rfl⟩ := h
  have QP := Aside0.mk (show 0 ≤ q by omega)
  have QL := Aside0.mk hlt
  clear c hq hlt
  go_enter Try.func21, Try.ntmps21
  go_wp2_with (first | ((with_reducible refine gate_dst (N := 2) rfl ?_); refine box_event ?hg (N := 2) ?hd (cs := #[.int .i64 a0_0, .int .i64 a0_1, .slice A0_2 l0_2.length c0_2]) (t := 24) ?hr ?_; (case hd => rfl); (case hg => rfl); (case hr => first | (go_simp; done) | (go_simp; rfl)); intro gbB hg w3 hbox hb; have n0_ := Aside0.mk (below_step HB.out hb); have n1_ := Aside0.mk hbox; have n2_ := Aside0.mk ((by rw [hg]; exact (below_size HB.out)) : w.heap.size ≤ gbB); clear HB; have HB := n0_; have BKB := n1_; have GEB := n2_; clear n0_ n1_ n2_; clear hb hbox hg) | ((with_reducible refine gate_dst (N := 3) rfl ?_); refine box_event ?hg (N := 3) ?hd (cs := #[.int .i64 a1_0, .int .i64 a1_1]) (t := 26) ?hr ?_; (case hd => rfl); (case hg => rfl); (case hr => first | (go_simp; done) | (go_simp; rfl)); intro gbS hg w4 hbox hb; have n0_ := Aside0.mk (below_step HB.out hb); have n1_ := Aside0.mk hbox; have n2_ := Aside0.mk ((by rw [hg]; exact (below_size HB.out)) : w.heap.size ≤ gbS); have m0_ := Aside0.mk (blk_below BKB.out hb); clear HB; clear BKB; have HB := n0_; have BKS := n1_; have GES := n2_; have BKB := m0_; clear n0_ n1_ n2_ m0_; clear hb hbox hg) | ((with_reducible refine gate_dst (N := 4) rfl ?_); refine box_event ?hg (N := 4) ?hd (cs := #[.int .i64 0, .int .i64 0, .int .i64 0, .int .i64 0, .int .i64 0, .int .i64 0]) (t := 28) ?hr ?_; (case hd => rfl); (case hg => rfl); (case hr => first | (go_simp; done) | (go_simp; rfl)); intro gbZ hg w5 hbox hb; have n0_ := Aside0.mk (below_step HB.out hb); have n1_ := Aside0.mk hbox; have n2_ := Aside0.mk ((by rw [hg]; exact (below_size HB.out)) : w.heap.size ≤ gbZ); have m0_ := Aside0.mk (blk_below BKB.out hb); have m1_ := Aside0.mk (blk_below BKS.out hb); clear HB; clear BKB; clear BKS; have HB := n0_; have BKZ := n1_; have GEZ := n2_; have BKB := m0_; have BKS := m1_; clear n0_ n1_ n2_ m0_ m1_; clear hb hbox hg; have hczB_0 : w5.cell? ⟨gbB, 0, none⟩ = some (.int .i64 a0_0) := (blk_cell BKB.out 0).trans rfl; have hczB_1 : w5.cell? ⟨gbB, 1, none⟩ = some (.int .i64 a0_1) := (blk_cell BKB.out 1).trans rfl; have hczB_2 : w5.cell? ⟨gbB, 2, none⟩ = some (.slice A0_2 l0_2.length c0_2) := (blk_cell BKB.out 2).trans rfl; have HCON := Aside0.mk (ixfunc_Alarm.calls (fun x => decide (x.f0.f0 = a1_0) && decide (x.f0.f1 = a1_1)) 59 #[.pointer (some ⟨gbS, 0, none⟩)] eg A0_2 c0_2 l0_2 w5 (fun W x hb => board_Get.one a1_0 a1_1 gbS w5 (blk_lt BKS.out) ((blk_cell BKS.out 0).trans rfl) ((blk_cell BKS.out 1).trans rfl) W x hb) (Kd.C_below HR.out HB.out))) | (go_at_call 58; refine HCON.out.mono ?_; rintro e w6 ⟨rfl, hb⟩; rw [Q.out]; have n0_ := Aside0.mk (below_step HB.out hb); have m0_ := Aside0.mk (blk_below BKB.out hb); have m1_ := Aside0.mk (blk_below BKZ.out hb); clear HCON HB BKB BKZ; have HB := n0_; have BKB := m0_; have BKZ := m1_; clear n0_ m0_ m1_ hb; have hczB_0 : w6.cell? ⟨gbB, 0, none⟩ = some (.int .i64 a0_0) := (blk_cell BKB.out 0).trans rfl; have hczB_1 : w6.cell? ⟨gbB, 1, none⟩ = some (.int .i64 a0_1) := (blk_cell BKB.out 1).trans rfl; have hczB_2 : w6.cell? ⟨gbB, 2, none⟩ = some (.slice A0_2 l0_2.length c0_2) := (blk_cell BKB.out 2).trans rfl; have hczZ_0 : w6.cell? ⟨gbZ, 0, none⟩ = some (.int .i64 0) := (blk_cell BKZ.out 0).trans rfl; have hczZ_1 : w6.cell? ⟨gbZ, 1, none⟩ = some (.int .i64 0) := (blk_cell BKZ.out 1).trans rfl; have hczZ_2 : w6.cell? ⟨gbZ, 2, none⟩ = some (.int .i64 0) := (blk_cell BKZ.out 2).trans rfl; have hczZ_3 : w6.cell? ⟨gbZ, 3, none⟩ = some (.int .i64 0) := (blk_cell BKZ.out 3).trans rfl; have hczZ_4 : w6.cell? ⟨gbZ, 4, none⟩ = some (.int .i64 0) := (blk_cell BKZ.out 4).trans rfl; have hczZ_5 : w6.cell? ⟨gbZ, 5, none⟩ = some (.int .i64 0) := (blk_cell BKZ.out 5).trans rfl; have hfzZ_0 := blk_frozen BKZ.out 0; have hfzZ_1 := blk_frozen BKZ.out 1; have hfzZ_2 := blk_frozen BKZ.out 2; have hfzZ_3 := blk_frozen BKZ.out 3; have hfzZ_4 := blk_frozen BKZ.out 4; have hfzZ_5 := blk_frozen BKZ.out 5; obtain ⟨ad, e0, hx0, hx1, hx2, hx3, hx4, hx5⟩ := at_T28 (Kd.C_below HR.out HB.out) q QP.out QL.out; cases e0; have p_ := eq_true QP.out; have q_ := eq_true QL.out))
  refine bodyPost_ret (results_ct rfl _ _ gbZ 28 #[.int .i64 (rd_T28 l0_2 q).f0.f0, .int .i64 (rd_T28 l0_2 q).f0.f1, .int .i64 (rd_T28 l0_2 q).f1, .int .i64 (rd_T28 l0_2 q).f2, .int .i64 (rd_T28 l0_2 q).f3, .int .i64 (rd_T28 l0_2 q).f4] (0, 0) _ rfl (by refine blk_put (cs := #[.int .i64 (rd_T28 l0_2 q).f0.f0, .int .i64 (rd_T28 l0_2 q).f0.f1, .int .i64 (rd_T28 l0_2 q).f1, .int .i64 (rd_T28 l0_2 q).f2, .int .i64 (rd_T28 l0_2 q).f3, .int .i64 0]) ?_ 5 _ rfl; refine blk_put (cs := #[.int .i64 (rd_T28 l0_2 q).f0.f0, .int .i64 (rd_T28 l0_2 q).f0.f1, .int .i64 (rd_T28 l0_2 q).f1, .int .i64 (rd_T28 l0_2 q).f2, .int .i64 0, .int .i64 0]) ?_ 4 _ rfl; refine blk_put (cs := #[.int .i64 (rd_T28 l0_2 q).f0.f0, .int .i64 (rd_T28 l0_2 q).f0.f1, .int .i64 (rd_T28 l0_2 q).f1, .int .i64 0, .int .i64 0, .int .i64 0]) ?_ 3 _ rfl; refine blk_put (cs := #[.int .i64 (rd_T28 l0_2 q).f0.f0, .int .i64 (rd_T28 l0_2 q).f0.f1, .int .i64 0, .int .i64 0, .int .i64 0, .int .i64 0]) ?_ 2 _ rfl; refine blk_put (cs := #[.int .i64 (rd_T28 l0_2 q).f0.f0, .int .i64 0, .int .i64 0, .int .i64 0, .int .i64 0, .int .i64 0]) ?_ 1 _ rfl; refine blk_put (cs := #[.int .i64 0, .int .i64 0, .int .i64 0, .int .i64 0, .int .i64 0, .int .i64 0]) ?_ 0 _ rfl; exact BKZ.out) Try.underlying28 rfl (by kernel_rfl)) rfl ?_
  exact ⟨by first | rfl | (simp; done) | (simp [*]; done), by repeat (with_reducible first | exact HB.out | refine below_set ?_ GEZ.out)⟩

/-! ### watchmanlaw09_far: function 35 -/
def watchmanlaw09_far.f (a0_0 : Int) (a0_1 : Int) (l0_2 : List (S28)) : Option (Bool) := some (decide ((l0_2.length : Int) > 60))
set_option maxHeartbeats 8000000 in
set_option maxRecDepth 100000 in
theorem watchmanlaw09_far.calls (a0_0 : Int) (a0_1 : Int) (A0_2 : Option Addr) (c0_2 : Nat) (l0_2 : List (S28)) (r : Bool) (w : World) (hr0_2 : Kd.C k28 w A0_2 l0_2.length l0_2) (hc0_2 : l0_2.length ≤ c0_2) (h : watchmanlaw09_far.f a0_0 a0_1 l0_2 = some r) :
 Calls Try.prog 35 #[.agg #[.int .i64 a0_0, .int .i64 a0_1, .slice A0_2 l0_2.length c0_2]] w fun e w' => e = .returned (.bool r) ∧ Below w.heap.size w w' := by
 have hu24 := Try.underlying24
 have HR0_2 := Aside0.mk hr0_2
 have HC0_2 := Aside0.mk hc0_2
 clear hr0_2 hc0_2
 have HB := Aside0.mk (Below.refl w.heap.size w)
 have H : (some (decide ((l0_2.length : Int) > 60))) = some r := h
 clear h
 obtain rfl := Option.some.inj H
 go_enter Try.func35, Try.ntmps35
 go_wp2_with (first | ((with_reducible refine gate_dst (N := 1) rfl ?_); refine box_event ?hg (N := 1) ?hd (cs := #[.int .i64 a0_0, .int .i64 a0_1, .slice A0_2 l0_2.length c0_2]) (t := 24) ?hr ?_; (case hd => rfl); (case hg => rfl); (case hr => first | (go_simp; done) | (go_simp; rfl)); intro gb182 hg w2 hbox hb; have BK182 := Aside0.mk (hbox); have GW182 := Aside0.mk ((by rw [hg]; exact (below_size HB.out) : w.heap.size ≤ gb182)); have GE182 := Aside0.mk ((by rw [hg]; exact (below_size HB.out) : w.heap.size ≤ gb182)); replace HB := Aside0.mk (below_step HB.out hb); clear hb hbox hg; have hcz3_0 : w2.cell? ⟨gb182, 0, none⟩ = some (.int .i64 a0_0) := (blk_cell BK182.out 0).trans rfl; have hcz3_1 : w2.cell? ⟨gb182, 1, none⟩ = some (.int .i64 a0_1) := (blk_cell BK182.out 1).trans rfl; have hcz3_2 : w2.cell? ⟨gb182, 2, none⟩ = some (.slice A0_2 l0_2.length c0_2) := (blk_cell BK182.out 2).trans rfl; have hfz3_0 := blk_frozen BK182.out 0; have hfz3_1 := blk_frozen BK182.out 1; have hfz3_2 := blk_frozen BK182.out 2))
 go_ret
 exact ⟨by first | rfl | (simp [errW_none, errW_some] <;> rfl) | (simp [*, errW_none, errW_some] <;> rfl), by repeat (with_reducible first | exact HB.out | apply pw_below_drewN | apply below_drew1 | refine below_set ?_ GE182.out)⟩

/-! ### api_Turn_78: function 78 -/
/-- What an iterator over a row wants kept in a round: what lay below m, and its own box. -/
structure KpV (m B : Nat) (W W' : World) : Prop where
 bel : Below m W W'
 one : ∀ o, W.heap[B]? = some o → W'.heap[B]? = some o
theorem KpV.t {m B : Nat} {X Y Z : World} (h : KpV m B X Y) (k : KpV m B Y Z) : KpV m B X Z := ⟨h.bel.trans k.bel, fun o ho => k.one o (h.one o ho)⟩
theorem KpV.b {m B : Nat} {w : World} (hm : m ≤ w.heap.size) (hB : B < w.heap.size) (W : World) (l : Nat) (o o' : Obj) (hl : w.heap.size ≤ l) (h : W.heap[l]? = some o) (h1 : o.isCells = false) (h2 : o.isWalk = false) : KpV m B W (W.putObj l o') :=
 ⟨belowK_b hm W l o o' hl h h1 h2, fun x hx => (World.putObj_heap_other (by omega)).trans hx⟩
theorem take_fin {n : Nat} (k : Nat) (hk : k < n) : (List.finRange n).take (k + 1) = (List.finRange n).take k ++ [⟨k, hk⟩] := by
 rw [List.take_add_one, List.getElem?_eq_getElem (by simpa using hk)]; simp
theorem take_fin_lt {n : Nat} (k : Nat) (hk : k < n) : ((List.finRange n).take k).length < n := by
 rw [List.length_take, List.length_finRange]; omega
theorem values_Turn.calls (A : Option Addr) (n c : Nat) (w : World) :
 Calls Try.prog 78 #[.slice A n c] w fun e w' => e = .returned (.func (.func 98) #[] #[.pointer (some ⟨w.heap.size, 0, none⟩)]) ∧ w' = w.alloc (.cells #[.slice A n c] 53) := by
 go_enter Try.func78, Try.ntmps78
 go_wp2
 go_ret
 exact ⟨rfl, rfl⟩
section
attribute [local go_sem] Oper.semAt_some
set_option maxRecDepth 100000 in
set_option maxHeartbeats 2000000 in
/-- The iterator over a row's elements. -/
theorem values1_Turn.stops (n : Nat) (hn : 1 ≤ n) (A : Option Addr) (c : Nat) (l : List S65) (w0 w : World) (B : Nat) (hr : Kd.C k65 w0 A l.length l) (hw : Below w0.heap.size w0 w)
 (hB : w.heap[B]? = some (.cells #[.slice A l.length c] 53 (0, 0))) :
 SeqStopsK Fence.wide n Try.prog 98 #[.pointer (some ⟨B, 0, none⟩)] (fun i : Fin l.length => #[Value.agg #[.int .i64 (rd_T65 l (i.1 : Int)).f0, .int .i64 (rd_T65 l (i.1 : Int)).f1.f0, .int .i64 (rd_T65 l (i.1 : Int)).f1.f1, .int .i64 (rd_T65 l (i.1 : Int)).f2]]) (KpV w0.heap.size B) (fun xs => xs = List.finRange l.length) (fun _ => True) l.length w := fun y J Jx W hW hJ hJx hY h0 => by
 have hu2 := Try.underlying65
 have hbig := hr.2.1
 have HR := Aside0.mk hr
 have HJ := Aside0.mk hJ
 have HY := Aside0.mk hY
 have h0' : J ((List.finRange l.length).take 0) W := by rw [List.take_zero]; exact h0
 have BKB := Aside0.mk (blk_below hB hW)
 have HB := Aside0.mk (hw.trans (hW.mono hw.size) : Below w0.heap.size w0 W)
 clear hr hJ hY h0 hB hw hW
 have hcB : W.cell? ⟨B, 0, none⟩ = some (.slice A l.length c) := (blk_cell BKB.out 0).trans rfl
 refine callsIn_of_wp Try.func98 rfl trivial ?_ rfl
 simp only [Try.ntmps98, List.size_toArray, List.length_cons, List.length_nil, Nat.reduceAdd, Nat.reduceSub, Array.replicate_succ, Array.replicate_zero, List.push_toArray, List.append_toArray, List.nil_append, List.cons_append]
 gi_wp2
 gi_loopw [7] (fun i wr => ∃ k : Nat, k ≤ l.length ∧ i = .int .i64 k ∧ Aside0 (J ((List.finRange l.length).take k) wr) ∧ Aside0 (Below w0.heap.size w0 wr) ∧ Aside0 (W.heap.size ≤ wr.heap.size) ∧ Aside0 (wr.heap[B]? = some (.cells #[.slice A l.length c] 53 (0, 0)))) (fun i _ => l.length - (intOf i).toNat)
 case atStart => exact ⟨0, Nat.zero_le _, rfl, ⟨h0'⟩, HB, ⟨Nat.le_refl _⟩, BKB⟩
 case round =>
  clear hcB HB BKB h0'
  obtain ⟨k, hk, rfl, HJr, HB, HS, BKB⟩ := hrel
  by_cases hlt : k < l.length
  ·have hltz : (k : Int) < (l.length : Int) := by omega
   obtain ⟨ad, e0, hx0, hx1, hx2, hx3⟩ := at_T65 (Kd.C_below HR.out HB.out) (k : Int) (by omega) hltz
   cases e0
   simp only [Int.toNat_natCast] at hx0 hx1 hx2 hx3
   have PS := Aside0.mk (take_fin k hlt)
   obtain ⟨x0, h0_⟩ : ∃ z, (rd_T65 l (k : Int)).f0 = z := ⟨_, rfl⟩
   obtain ⟨x1, h1_⟩ : ∃ z, (rd_T65 l (k : Int)).f1.f0 = z := ⟨_, rfl⟩
   obtain ⟨x2, h2_⟩ : ∃ z, (rd_T65 l (k : Int)).f1.f1 = z := ⟨_, rfl⟩
   obtain ⟨x3, h3_⟩ : ∃ z, (rd_T65 l (k : Int)).f2 = z := ⟨_, rfl⟩
   rw [h0_] at hx0
   rw [h1_] at hx1
   rw [h2_] at hx2
   rw [h3_] at hx3
   have hJ2 := HJ.out _ _ (wr.alloc (.cells #[.int .i64 x0, .int .i64 x1, .int .i64 x2, .int .i64 x3] 65)) none HJr.out (World.grownBy_alloc wr _ none) (fun r e => by cases e)
   have hbl := below_alloc (Below.refl _ wr) (.cells #[.int .i64 x0, .int .i64 x1, .int .i64 x2, .int .i64 x3] 65)
   obtain ⟨fn, tmps, assign, body, hy, hR⟩ := HY.out _ ⟨k, hlt⟩ _ hJ2 (take_fin_lt _ hlt)
   dsimp only at hy
   rw [h0_, h1_, h2_, h3_] at hy
   have HR2 := Aside0.mk hR
   have HB2 := Aside0.mk (below_then HB.out HB.out.size hbl)
   have BB2 := Aside0.mk (blk_below BKB.out hbl)
   have HS2 := Aside0.mk (Nat.le_trans HS.out hbl.size)
   clear hJ2 hbl hR h0_ h1_ h2_ h3_
   gi_wp2
   refine HR2.out.mono ?_
   rintro e W3 (⟨rfl, hJ3, hk3⟩ | ⟨rfl, hJx3⟩)
   ·have N1 := Aside0.mk hJ3
    have N2 := Aside0.mk (HB2.out.trans hk3.bel)
    have N3 := Aside0.mk (hk3.one _ BB2.out)
    have N5 := Aside0.mk (Nat.le_trans HS2.out hk3.bel.size)
    clear hJ3 hk3
    gi_wp2
    go_roundw
    case rel => exact ⟨k + 1, by omega, by go_num, ⟨by rw [PS.out]; exact N1.out⟩, N2, N5, N3⟩
    case measure => simp [intOf]; omega
   ·gi_wp2
    refine bodyPost_ret (results_none rfl _ _ _) rfl ?_
    exact ⟨⟨_, rfl⟩, .inr ⟨_, trivial, hJx3⟩⟩
  ·gi_wp2
   go_end0
   obtain rfl : k = l.length := by omega
   exact ⟨⟨_, rfl⟩, .inl ⟨_, by rw [List.take_of_length_le (by rw [List.length_finRange]; exact Nat.le_refl _)], HJr.out⟩⟩
end

/-! ### due_waiting: function 69 -/
def wtP (x : S28) : Bool := x.f1 == 1 || x.f1 == 4
/-- The places of the alarms that wait. -/
def wplaces (l : List S28) (k : Nat) : List (Fin l.length) := ((List.finRange l.length).take k).filter (fun i => wtP l[i])
theorem wplaces_zero (l : List S28) : wplaces l 0 = [] := rfl
theorem wplaces_succ (l : List S28) (k : Nat) (hk : k < l.length) : wplaces l (k + 1) = wplaces l k ++ (if wtP l[k] = true then [⟨k, hk⟩] else []) := by
 unfold wplaces
 rw [List.take_add_one, List.filter_append]
 congr 1
 rw [List.getElem?_eq_getElem (by simpa using hk)]
 simp [List.filter_cons]
theorem wplaces_lt (l : List S28) (k : Nat) (hk : k < l.length) : (wplaces l k).length < l.length := by
 unfold wplaces
 refine Nat.lt_of_le_of_lt (List.length_filter_le _ _) ?_
 rw [List.length_take, List.length_finRange]; omega
theorem wplaces_all (l : List S28) : (wplaces l l.length).map (fun i => l[i]) = l.filter wtP := by
 have key : ∀ k, k ≤ l.length → (wplaces l k).map (fun i => l[i]) = (l.take k).filter wtP := by
  intro k
  induction k with
  | zero => intro _; rw [wplaces_zero]; rfl
  | succ k ih =>
   intro hk
   rw [wplaces_succ l k (by omega), List.map_append, ih (by omega), List.take_succ_eq_append_getElem (by omega), List.filter_append]
   congr 1
   by_cases h : wtP l[k] = true
   ·rw [if_pos h]; simp [List.filter_cons, h]
   ·rw [if_neg h]; simp [List.filter_cons, h]
 rw [key _ (Nat.le_refl _), List.take_length]
theorem ringing_waits.calls (x0 x1 x2 x3 x4 x5 : Int) (w : World) :
 Calls Try.prog 125 #[.agg #[.int .i64 x0, .int .i64 x1, .int .i64 x2, .int .i64 x3, .int .i64 x4, .int .i64 x5]] w fun e w' => e = .returned (.bool (x2 == 1 || x2 == 4)) ∧ w' = w.alloc (.cells #[.int .i64 x0, .int .i64 x1, .int .i64 x2, .int .i64 x3, .int .i64 x4, .int .i64 x5] 110) := by
 have hu := Try.underlying110
 by_cases h1 : x2 = 1
 ·subst h1
  go_enter Try.func125, Try.ntmps125
  go_wp2
  go_ret
  exact ⟨rfl, rfl⟩
 ·have h1b : (x2 == 1) = false := beq_eq_false_iff_ne.2 h1
  have h1d : decide (x2 = 1) = false := decide_eq_false h1
  go_enter Try.func125, Try.ntmps125
  go_wp2
  go_ret
  exact ⟨by simp [h1b], rfl⟩
theorem waits_method (x : Value) (W : World) : (method 250 110 x "watchman/due.waits").run Try.prog W = .ok (125, x) W := by kernel_rfl
theorem due_waiting.calls (A : Option Addr) (n c : Nat) (w : World) :
 Calls Try.prog 69 #[.slice A n c] w fun e w' => e = .returned (.func (.func 91) #[] #[.pointer (some ⟨w.heap.size, 0, none⟩)]) ∧ w' = w.alloc (.cells #[.slice A n c] 22) := by
 go_enter Try.func69, Try.ntmps69
 go_wp2
 go_ret
 exact ⟨rfl, rfl⟩
section
attribute [local go_sem] Oper.semAt_some
set_option maxRecDepth 100000 in
set_option maxHeartbeats 4000000 in
/-- The iterator over the alarms that wait. -/
theorem waiting1.stops (n : Nat) (hn : 1 ≤ n) (A : Option Addr) (c : Nat) (l : List S28) (w0 w : World) (B : Nat) (hr : Kd.C k28 w0 A l.length l) (hw : Below w0.heap.size w0 w)
 (hB : w.heap[B]? = some (.cells #[.slice A l.length c] 22 (0, 0))) :
 SeqStopsK Fence.wide n Try.prog 91 #[.pointer (some ⟨B, 0, none⟩)] (fun i : Fin l.length => #[Value.agg #[.int .i64 (rd_T28 l (i.1 : Int)).f0.f0, .int .i64 (rd_T28 l (i.1 : Int)).f0.f1, .int .i64 (rd_T28 l (i.1 : Int)).f1, .int .i64 (rd_T28 l (i.1 : Int)).f2, .int .i64 (rd_T28 l (i.1 : Int)).f3, .int .i64 (rd_T28 l (i.1 : Int)).f4]]) (KpV w0.heap.size B) (fun xs => xs = wplaces l l.length) (fun _ => True) l.length w := fun y J Jx W hW hJ hJx hY h0 => by
 have hu := Try.underlying110
 have hu2 := Try.underlying28
 have hbig := hr.2.1
 have HR := Aside0.mk hr
 have HJ := Aside0.mk hJ
 have HY := Aside0.mk hY
 have h0' : J (wplaces l 0) W := h0
 have BKB := Aside0.mk (blk_below hB hW)
 have HB := Aside0.mk (hw.trans (hW.mono hw.size) : Below w0.heap.size w0 W)
 clear hr hJ hY h0 hB hw hW
 have hcB : W.cell? ⟨B, 0, none⟩ = some (.slice A l.length c) := (blk_cell BKB.out 0).trans rfl
 refine callsIn_of_wp Try.func91 rfl trivial ?_ rfl
 simp only [Try.ntmps91, List.size_toArray, List.length_cons, List.length_nil, Nat.reduceAdd, Nat.reduceSub, Array.replicate_succ, Array.replicate_zero, List.push_toArray, List.append_toArray, List.nil_append, List.cons_append]
 gi_wp2
 gi_loopw [8] (fun i wr => ∃ k : Nat, k ≤ l.length ∧ i = .int .i64 k ∧ Aside0 (J (wplaces l k) wr) ∧ Aside0 (Below w0.heap.size w0 wr) ∧ Aside0 (W.heap.size ≤ wr.heap.size) ∧ Aside0 (wr.heap[B]? = some (.cells #[.slice A l.length c] 22 (0, 0)))) (fun i _ => l.length - (intOf i).toNat)
 case atStart => exact ⟨0, Nat.zero_le _, rfl, ⟨h0'⟩, HB, ⟨Nat.le_refl _⟩, BKB⟩
 case round =>
  clear hcB HB BKB h0'
  obtain ⟨k, hk, rfl, HJr, HB, HS, BKB⟩ := hrel
  by_cases hlt : k < l.length
  ·have hltz : (k : Int) < (l.length : Int) := by omega
   obtain ⟨ad, e0, hx0, hx1, hx2, hx3, hx4, hx5⟩ := at_T28 (Kd.C_below HR.out HB.out) (k : Int) (by omega) hltz
   cases e0
   simp only [Int.toNat_natCast] at hx0 hx1 hx2 hx3 hx4 hx5
   have hrd : rd_T28 l (k : Int) = l[k] := by simp [rd_T28, List.getD_eq_getElem?_getD, List.getElem?_eq_getElem hlt]
   have hps := wplaces_succ l k hlt
   rw [← hrd] at hps
   obtain ⟨y_, hy_⟩ : ∃ y_, rd_T28 l (k : Int) = y_ := ⟨_, rfl⟩
   rw [hy_] at hx0 hx1 hx2 hx3 hx4 hx5 hps
   obtain ⟨⟨x0, x1⟩, x2, x3, x4, x5⟩ := y_
   dsimp only at hx0 hx1 hx2 hx3 hx4 hx5
   have HY_ := Aside0.mk hy_
   clear hrd hy_
   obtain ⟨W2, hW2⟩ : ∃ W2, (wr.alloc (.cells #[.int .i64 x0, .int .i64 x1, .int .i64 x2, .int .i64 x3, .int .i64 x4, .int .i64 x5] 28)).alloc (.cells #[.int .i64 x0, .int .i64 x1, .int .i64 x2, .int .i64 x3, .int .i64 x4, .int .i64 x5] 110) = W2 := ⟨_, rfl⟩
   have hg2 : Below wr.heap.size wr W2 := by rw [← hW2]; exact below_alloc (below_alloc (Below.refl _ _) _) _
   have hJ2 : J (wplaces l k) W2 := by
    rw [← hW2]
    exact HJ.out _ _ _ none (HJ.out _ _ (wr.alloc (.cells #[.int .i64 x0, .int .i64 x1, .int .i64 x2, .int .i64 x3, .int .i64 x4, .int .i64 x5] 28)) none HJr.out (World.grownBy_alloc wr _ none) (fun r e => by cases e)) (World.grownBy_alloc _ _ none) (fun r e => by cases e)
   have hb4 : W2.heap[wr.heap.size]? = some (.cells #[.int .i64 x0, .int .i64 x1, .int .i64 x2, .int .i64 x3, .int .i64 x4, .int .i64 x5] 28 (0, 0)) := by rw [← hW2]; exact blk_below (blk_new wr _) (below_alloc (Below.refl _ _) _)
   have HJ2 := Aside0.mk hJ2
   have HB2 := Aside0.mk (below_then HB.out HB.out.size hg2)
   have BB2 := Aside0.mk (blk_below BKB.out hg2)
   have HS2 := Aside0.mk (Nat.le_trans HS.out hg2.size)
   have B4 := Aside0.mk hb4
   have PS := Aside0.mk hps
   clear hJ2 hg2 hb4 hps
   have hm := waits_method (.agg #[.int .i64 x0, .int .i64 x1, .int .i64 x2, .int .i64 x3, .int .i64 x4, .int .i64 x5])
   have hfa : ∀ f, Fence.wide.fn f := fun _ => trivial
   by_cases ht : (x2 == 1 || x2 == 4) = true
   ·have HT_ := Aside0.mk ht
    have e1 : wtP (⟨⟨x0, x1⟩, x2, x3, x4, x5⟩ : S28) = true := ht
    have PS2 := Aside0.mk (PS.out.trans (by rw [if_pos e1]))
    obtain ⟨fn, tmps, assign, body, hy, hR⟩ := HY.out _ ⟨k, hlt⟩ _ HJ2.out (wplaces_lt _ _ hlt)
    dsimp only at hy
    rw [HY_.out] at hy
    have HR2 := Aside0.mk hR
    have hc0 := (blk_cell B4.out 0).trans rfl; have hc1 := (blk_cell B4.out 1).trans rfl; have hc2 := (blk_cell B4.out 2).trans rfl; have hc3 := (blk_cell B4.out 3).trans rfl; have hc4 := (blk_cell B4.out 4).trans rfl; have hc5 := (blk_cell B4.out 5).trans rfl
    clear hR ht e1
    gi_wp2_with (gi_at_call 125; refine (callsIn_wide.2 (ringing_waits.calls x0 x1 x2 x3 x4 x5 _)).mono ?_; rintro e w' ⟨rfl, rfl⟩; rw [hW2, HT_.out])
    refine HR2.out.mono ?_
    rintro e W3 (⟨rfl, hJ3, hk3⟩ | ⟨rfl, hJx3⟩)
    ·have N1 := Aside0.mk hJ3
     have N2 := Aside0.mk (HB2.out.trans hk3.bel)
     have N3 := Aside0.mk (hk3.one _ BB2.out)
     have N5 := Aside0.mk (Nat.le_trans HS2.out hk3.bel.size)
     clear hJ3 hk3
     gi_wp2
     go_roundw
     case rel => exact ⟨k + 1, by omega, by go_num, ⟨by rw [PS2.out]; exact N1.out⟩, N2, N5, N3⟩
     case measure => simp [intOf]; omega
    ·gi_wp2
     refine bodyPost_ret (results_none rfl _ _ _) rfl ?_
     exact ⟨⟨_, rfl⟩, .inr ⟨_, trivial, hJx3⟩⟩
   ·replace ht := Bool.eq_false_iff.mpr ht
    have HT_ := Aside0.mk ht
    have e1 : ¬ wtP (⟨⟨x0, x1⟩, x2, x3, x4, x5⟩ : S28) = true := fun h => by rw [show wtP (⟨⟨x0, x1⟩, x2, x3, x4, x5⟩ : S28) = (x2 == 1 || x2 == 4) from rfl, ht] at h; cases h
    have PS2 := Aside0.mk (PS.out.trans (by rw [if_neg e1, List.append_nil]))
    clear ht e1
    gi_wp2_with (gi_at_call 125; refine (callsIn_wide.2 (ringing_waits.calls x0 x1 x2 x3 x4 x5 _)).mono ?_; rintro e w' ⟨rfl, rfl⟩; rw [hW2, HT_.out])
    go_roundw
    case rel => exact ⟨k + 1, by omega, by go_num, ⟨by rw [PS2.out]; exact HJ2.out⟩, HB2, HS2, BB2⟩
    case measure => simp [intOf]; omega
  ·gi_wp2
   go_end0
   obtain rfl : k = l.length := by omega
   exact ⟨⟨_, rfl⟩, .inl ⟨_, rfl, HJr.out⟩⟩
end

end Go.Proofs.Ytcfpbmdndapeaaa.F
