-- Written by a program of this session (xprint.py), out of the translation and of contracts proved by hand.
import Derived.Test.YtcfpbmdndapeaaaF0
import Derived.Test.YtcfpbmdndapeaaaF2
namespace Go.Proofs.Ytcfpbmdndapeaaa.F
open Go.RowKit Go.Proofs.YtcfpbmdndapeaaaV.PrintWords Go.Proofs.YtcfpbmdndapeaaaV.PrintLast Go.Proofs.YtcfpbmdndapeaaaV.PrintMore
attribute [local go_sem] max2_int min2_int max_two min_two max_three min_three max_four min_four   -- for this text's walks alone
set_option linter.unusedVariables false
set_option linter.unusedSimpArgs false

attribute [local go_sem high] eqA28
/-! ### api_Alarm_58: function 58 -/
def ix_Alarm (p : S28 → Bool) (l : List S28) : Int := match l.findIdx? p with | some i => (i : Int) | none => -1
theorem ix_Alarm_hit (p : S28 → Bool) (l : List S28) (i : Nat) (hi : i < l.length) (h : p (rd_T28 l (i : Int)) = true) (hn : ∀ j, j < i → p (rd_T28 l (j : Int)) = false) : ix_Alarm p l = (i : Int) := by
  have e : l.findIdx? p = some i := by
    rw [List.findIdx?_eq_some_iff_getElem]
    refine ⟨hi, ?_, fun j hj => ?_⟩
    · simpa [rd_T28, List.getD_eq_getElem?_getD, List.getElem?_eq_getElem hi] using h
    · have := hn j hj
      simpa [rd_T28, List.getD_eq_getElem?_getD, List.getElem?_eq_getElem (show j < l.length by omega)] using this
  unfold ix_Alarm; rw [e]
theorem ix_Alarm_miss (p : S28 → Bool) (l : List S28) (hn : ∀ j, j < l.length → p (rd_T28 l (j : Int)) = false) : ix_Alarm p l = -1 := by
  have e : l.findIdx? p = none := by
    rw [List.findIdx?_eq_none_iff]
    intro x hx
    obtain ⟨j, hj, rfl⟩ := List.mem_iff_getElem.1 hx
    have := hn j hj
    simpa [rd_T28, List.getD_eq_getElem?_getD, List.getElem?_eq_getElem hj] using this
  unfold ix_Alarm; rw [e]
set_option maxHeartbeats 8000000 in
set_option maxRecDepth 100000 in
theorem ixfunc_Alarm.calls (p : S28 → Bool) (g : Nat) (lb : Array Value) (eg : ∀ args w, (callFunc g args).run Try.prog w = .ok (.enter g args) w) (A0 : Option Addr) (c0 : Nat) (l0 : List S28) (w : World)
    (hp : ∀ (W : World) (x : S28), Below w.heap.size w W → Calls Try.prog g (#[.agg #[.int .i64 x.f0.f0, .int .i64 x.f0.f1, .int .i64 x.f1, .int .i64 x.f2, .int .i64 x.f3, .int .i64 x.f4]] ++ lb) W fun e w' => e = .returned (.bool (p x)) ∧ Below w.heap.size w w')
    (hr0 : Kd.C k28 w A0 l0.length l0) :
    Calls Try.prog 58 #[.slice A0 l0.length c0, .func (.func g) #[] lb] w fun e w' => e = .returned (.int .i64 (ix_Alarm p l0)) ∧ Below w.heap.size w w' := by
  have hu_ := Try.underlying28
  have hbig := hr0.2.1
  have HR0 := Aside0.mk hr0
  have HP := Aside0.mk hp
  clear hr0 hp
  go_enter Try.func58, Try.ntmps58
  go_wp2
  go_loopg [5, 8] l0.length (fun gg _ s8 wr => ∃ kk : Nat, kk ≤ l0.length ∧ l0.length - kk ≤ gg ∧ s8 = .int .i64 kk ∧ Aside0 (Below w.heap.size w wr) ∧ Aside0 (∀ j, j < kk → p (rd_T28 l0 (j : Int)) = false))
  case atStart => exact ⟨0, Nat.zero_le _, by omega, rfl, ⟨Below.refl _ w⟩, ⟨fun j hj => absurd hj (Nat.not_lt_zero _)⟩⟩
  case round =>
    obtain ⟨kk, hkk, hg, rfl, BW, A⟩ := hrel
    by_cases hlt : kk < l0.length
    · have hltz : (kk : Int) < (l0.length : Int) := by omega
      obtain ⟨ad, e0, hx0, hx1, hx2, hx3, hx4, hx5⟩ := at_T28 (Kd.C_below HR0.out BW.out) (kk : Int) (by omega) hltz
      cases e0
      simp only [Int.toNat_natCast] at hx0 hx1 hx2 hx3 hx4 hx5
      have hcall := HP.out wr (rd_T28 l0 (kk : Int))  BW.out
      generalize hy_ : rd_T28 l0 (kk : Int) = y_ at hcall hx0 hx1 hx2 hx3 hx4 hx5
      have Y := Aside0.mk hy_
      clear hy_
      cases hq : p y_ with
      | true =>
        rw [hq] at hcall
        have Q := Aside0.mk hq
        clear hq
        go_wp2_with (go_at_fn g; refine hcall.mono ?_; rintro e w' ⟨rfl, hb'⟩)
        go_ret
        exact ⟨by rw [ix_Alarm_hit p l0 kk hlt (by rw [Y.out]; exact Q.out) A.out]; rfl, hb'⟩
      | false =>
        rw [hq] at hcall
        have Q := Aside0.mk hq
        clear hq
        go_wp2_with (go_at_fn g; refine hcall.mono ?_; rintro e w' ⟨rfl, hb'⟩)
        go_roundg (l0.length - (kk + 1))
        case measure => omega
        case rel =>
          refine ⟨kk + 1, by omega, by omega, by go_num, ⟨hb'⟩, ⟨fun j hj => ?_⟩⟩
          by_cases e : j = kk
          · subst e; rw [Y.out]; exact Q.out
          · exact A.out j (by omega)
    · have hltz : ¬ (kk : Int) < (l0.length : Int) := by omega
      go_wp2
      go_ret
      exact ⟨by rw [ix_Alarm_miss p l0 (fun j hj => A.out j (by omega))]; rfl, BW.out⟩

/-! ### board_Get: function 21 -/
def board_Get.f (a0_0 : Int) (a0_1 : Int) (l0_2 : List S28) (a1_0 : Int) (a1_1 : Int) : Option (Int × Int × Int × Int × Int × Int × Bool) := if ix_Alarm (fun x => decide (x.f0.f0 = a1_0) && decide (x.f0.f1 = a1_1)) l0_2 < 0 then some (0, 0, 0, 0, 0, 0, false) else some ((rd_T28 l0_2 (ix_Alarm (fun x => decide (x.f0.f0 = a1_0) && decide (x.f0.f1 = a1_1)) l0_2)).f0.f0, (rd_T28 l0_2 (ix_Alarm (fun x => decide (x.f0.f0 = a1_0) && decide (x.f0.f1 = a1_1)) l0_2)).f0.f1, (rd_T28 l0_2 (ix_Alarm (fun x => decide (x.f0.f0 = a1_0) && decide (x.f0.f1 = a1_1)) l0_2)).f1, (rd_T28 l0_2 (ix_Alarm (fun x => decide (x.f0.f0 = a1_0) && decide (x.f0.f1 = a1_1)) l0_2)).f2, (rd_T28 l0_2 (ix_Alarm (fun x => decide (x.f0.f0 = a1_0) && decide (x.f0.f1 = a1_1)) l0_2)).f3, (rd_T28 l0_2 (ix_Alarm (fun x => decide (x.f0.f0 = a1_0) && decide (x.f0.f1 = a1_1)) l0_2)).f4, true)
theorem ix_Alarm_lt (p : S28 → Bool) (l : List S28) (h : ¬ ix_Alarm p l < 0) : ix_Alarm p l < (l.length : Int) := by
  unfold ix_Alarm at h ⊢
  cases e : l.findIdx? p with
  | none => rw [e] at h; exact absurd h (by decide)
  | some i =>
    rw [List.findIdx?_eq_some_iff_getElem] at e
    obtain ⟨hi, _⟩ := e
    show (i : Int) < _
    omega
theorem board_Get.one (s0 s1 : Int) (B : Nat) (w : World) (hB : B < w.heap.size) (hcell0 : w.cell? ⟨B, 0, none⟩ = some (.int .i64 s0)) (hcell1 : w.cell? ⟨B, 1, none⟩ = some (.int .i64 s1)) (W : World) (x : S28) (hb : Below w.heap.size w W) :
    Calls Try.prog 59 (#[.agg #[.int .i64 x.f0.f0, .int .i64 x.f0.f1, .int .i64 x.f1, .int .i64 x.f2, .int .i64 x.f3, .int .i64 x.f4]] ++ #[.pointer (some ⟨B, 0, none⟩)]) W fun e w' => e = .returned (.bool (decide (x.f0.f0 = s0) && decide (x.f0.f1 = s1))) ∧ Below w.heap.size w w' := by
  have hc0 : W.cell? ⟨B, 0, none⟩ = some (.int .i64 s0) := (hb.cell (p := ⟨B, 0, none⟩) hB).trans hcell0
  have hc1 : W.cell? ⟨B, 1, none⟩ = some (.int .i64 s1) := (hb.cell (p := ⟨B, 1, none⟩) hB).trans hcell1
  have hBW : B < W.heap.size := Nat.lt_of_lt_of_le hB hb.size
  have hne : B ≠ W.heap.size := by omega
  obtain ⟨⟨x0, x1⟩, x2, x3, x4, x5⟩ := x
  show Calls Try.prog 59 #[.agg #[.int .i64 x0, .int .i64 x1, .int .i64 x2, .int .i64 x3, .int .i64 x4, .int .i64 x5], .pointer (some ⟨B, 0, none⟩)] W _
  clear hcell0 hcell1
  by_cases h0 : x0 = s0
  · by_cases h1 : x1 = s1
    · subst h0; subst h1
      go_enter Try.func59, Try.ntmps59
      go_wp2
      all_goals (go_ret; exact ⟨by first | (simp_all; done) | (simp_all; rfl), hb.alloc hb.size _⟩)
    · have d1 : decide (x1 = s1) = false := decide_eq_false h1
      have d2 : (x1 == s1) = false := by rw [beq_eq_false_iff_ne]; exact h1
      subst h0
      go_enter Try.func59, Try.ntmps59
      go_wp2
      all_goals (go_ret; exact ⟨by first | (simp_all; done) | (simp_all; rfl), hb.alloc hb.size _⟩)
  · have d1 : decide (x0 = s0) = false := decide_eq_false h0
    have d2 : (x0 == s0) = false := by rw [beq_eq_false_iff_ne]; exact h0
    go_enter Try.func59, Try.ntmps59
    go_wp2
    all_goals (go_ret; exact ⟨by first | (simp_all; done) | (simp_all; rfl), hb.alloc hb.size _⟩)
set_option maxHeartbeats 8000000 in
set_option maxRecDepth 100000 in
theorem board_Get.calls (a0_0 : Int) (a0_1 : Int) (A0_2 : Option Addr) (c0_2 : Nat) (l0_2 : List S28) (a1_0 : Int) (a1_1 : Int) (r1 : Int) (r2 : Int) (r3 : Int) (r4 : Int) (r5 : Int) (r6 : Int) (r7 : Bool) (w : World) (hr0_2 : Kd.C k28 w A0_2 l0_2.length l0_2) (hc0_2 : l0_2.length ≤ c0_2) (h : board_Get.f a0_0 a0_1 l0_2 a1_0 a1_1 = some (r1, r2, r3, r4, r5, r6, r7)) :
    Calls Try.prog 21 #[.agg #[.int .i64 a0_0, .int .i64 a0_1, .slice A0_2 l0_2.length c0_2], .agg #[.int .i64 a1_0, .int .i64 a1_1]] w fun e w' => e = .returned (.tuple #[.agg #[.int .i64 r1, .int .i64 r2, .int .i64 r3, .int .i64 r4, .int .i64 r5, .int .i64 r6], .bool r7]) ∧ Below w.heap.size w w' := by
  have hu24 := Try.underlying24
  have hu26 := Try.underlying26
  have hu28 := Try.underlying28
  have eg : ∀ args w, (callFunc 59 args).run Try.prog w = .ok (.enter 59 args) w := enters_of Try.func59 (by kernel_rfl) rfl
  have HR := Aside0.mk hr0_2
  have HC := Aside0.mk hc0_2
  clear hr0_2 hc0_2
  have HB := Aside0.mk (Below.refl w.heap.size w)
  unfold board_Get.f at h
  generalize hq : ix_Alarm (fun x => decide (x.f0.f0 = a1_0) && decide (x.f0.f1 = a1_1)) l0_2 = q at h
  have Q := Aside0.mk hq
  by_cases c : q < 0
  · rw [if_pos c] at h
    have c0 : decide (q < 0) = true := decide_eq_true c
    simp only [Option.some.injEq, Prod.mk.injEq] at h
    obtain ⟨rfl, rfl, rfl, rfl, rfl, rfl, rfl⟩ := h
    clear c hq
    go_enter Try.func21, Try.ntmps21
    go_wp2_with (first | ((with_reducible refine gate_dst (N := 2) rfl ?_); refine box_event ?hg (N := 2) ?hd (cs := #[.int .i64 a0_0, .int .i64 a0_1, .slice A0_2 l0_2.length c0_2]) (t := 24) ?hr ?_; (case hd => rfl); (case hg => rfl); (case hr => first | (go_simp; done) | (go_simp; rfl)); intro gbB hg w3 hbox hb; have n0_ := Aside0.mk (below_step HB.out hb); have n1_ := Aside0.mk hbox; have n2_ := Aside0.mk ((by rw [hg]; exact (below_size HB.out)) : w.heap.size ≤ gbB); clear HB; have HB := n0_; have BKB := n1_; have GEB := n2_; clear n0_ n1_ n2_; clear hb hbox hg) | ((with_reducible refine gate_dst (N := 3) rfl ?_); refine box_event ?hg (N := 3) ?hd (cs := #[.int .i64 a1_0, .int .i64 a1_1]) (t := 26) ?hr ?_; (case hd => rfl); (case hg => rfl); (case hr => first | (go_simp; done) | (go_simp; rfl)); intro gbS hg w4 hbox hb; have n0_ := Aside0.mk (below_step HB.out hb); have n1_ := Aside0.mk hbox; have n2_ := Aside0.mk ((by rw [hg]; exact (below_size HB.out)) : w.heap.size ≤ gbS); have m0_ := Aside0.mk (blk_below BKB.out hb); clear HB; clear BKB; have HB := n0_; have BKS := n1_; have GES := n2_; have BKB := m0_; clear n0_ n1_ n2_ m0_; clear hb hbox hg) | ((with_reducible refine gate_dst (N := 4) rfl ?_); refine box_event ?hg (N := 4) ?hd (cs := #[.int .i64 0, .int .i64 0, .int .i64 0, .int .i64 0, .int .i64 0, .int .i64 0]) (t := 28) ?hr ?_; (case hd => rfl); (case hg => rfl); (case hr => first | (go_simp; done) | (go_simp; rfl)); intro gbZ hg w5 hbox hb; have n0_ := Aside0.mk (below_step HB.out hb); have n1_ := Aside0.mk hbox; have n2_ := Aside0.mk ((by rw [hg]; exact (below_size HB.out)) : w.heap.size ≤ gbZ); have m0_ := Aside0.mk (blk_below BKB.out hb); have m1_ := Aside0.mk (blk_below BKS.out hb); clear HB; clear BKB; clear BKS; have HB := n0_; have BKZ := n1_; have GEZ := n2_; have BKB := m0_; have BKS := m1_; clear n0_ n1_ n2_ m0_ m1_; clear hb hbox hg; have hczB_0 : w5.cell? ⟨gbB, 0, none⟩ = some (.int .i64 a0_0) := (blk_cell BKB.out 0).trans rfl; have hczB_1 : w5.cell? ⟨gbB, 1, none⟩ = some (.int .i64 a0_1) := (blk_cell BKB.out 1).trans rfl; have hczB_2 : w5.cell? ⟨gbB, 2, none⟩ = some (.slice A0_2 l0_2.length c0_2) := (blk_cell BKB.out 2).trans rfl; have HCON := Aside0.mk (ixfunc_Alarm.calls (fun x => decide (x.f0.f0 = a1_0) && decide (x.f0.f1 = a1_1)) 59 #[.pointer (some ⟨gbS, 0, none⟩)] eg A0_2 c0_2 l0_2 w5 (fun W x hb => board_Get.one a1_0 a1_1 gbS w5 (blk_lt BKS.out) ((blk_cell BKS.out 0).trans rfl) ((blk_cell BKS.out 1).trans rfl) W x hb) (Kd.C_below HR.out HB.out))) | (go_at_call 58; refine HCON.out.mono ?_; rintro e w6 ⟨rfl, hb⟩; rw [Q.out]; have n0_ := Aside0.mk (below_step HB.out hb); have m0_ := Aside0.mk (blk_below BKB.out hb); have m1_ := Aside0.mk (blk_below BKZ.out hb); clear HCON HB BKB BKZ; have HB := n0_; have BKB := m0_; have BKZ := m1_; clear n0_ m0_ m1_ hb; have hczZ_0 : w6.cell? ⟨gbZ, 0, none⟩ = some (.int .i64 0) := (blk_cell BKZ.out 0).trans rfl; have hczZ_1 : w6.cell? ⟨gbZ, 1, none⟩ = some (.int .i64 0) := (blk_cell BKZ.out 1).trans rfl; have hczZ_2 : w6.cell? ⟨gbZ, 2, none⟩ = some (.int .i64 0) := (blk_cell BKZ.out 2).trans rfl; have hczZ_3 : w6.cell? ⟨gbZ, 3, none⟩ = some (.int .i64 0) := (blk_cell BKZ.out 3).trans rfl; have hczZ_4 : w6.cell? ⟨gbZ, 4, none⟩ = some (.int .i64 0) := (blk_cell BKZ.out 4).trans rfl; have hczZ_5 : w6.cell? ⟨gbZ, 5, none⟩ = some (.int .i64 0) := (blk_cell BKZ.out 5).trans rfl; have hfzZ_0 := blk_frozen BKZ.out 0; have hfzZ_1 := blk_frozen BKZ.out 1; have hfzZ_2 := blk_frozen BKZ.out 2; have hfzZ_3 := blk_frozen BKZ.out 3; have hfzZ_4 := blk_frozen BKZ.out 4; have hfzZ_5 := blk_frozen BKZ.out 5))
    refine bodyPost_ret (results_ct rfl _ _ gbZ 28 #[.int .i64 0, .int .i64 0, .int .i64 0, .int .i64 0, .int .i64 0, .int .i64 0] (0, 0) _ rfl (by refine blk_put (cs := #[.int .i64 0, .int .i64 0, .int .i64 0, .int .i64 0, .int .i64 0, .int .i64 0]) ?_ 5 _ rfl; refine blk_put (cs := #[.int .i64 0, .int .i64 0, .int .i64 0, .int .i64 0, .int .i64 0, .int .i64 0]) ?_ 4 _ rfl; refine blk_put (cs := #[.int .i64 0, .int .i64 0, .int .i64 0, .int .i64 0, .int .i64 0, .int .i64 0]) ?_ 3 _ rfl; refine blk_put (cs := #[.int .i64 0, .int .i64 0, .int .i64 0, .int .i64 0, .int .i64 0, .int .i64 0]) ?_ 2 _ rfl; refine blk_put (cs := #[.int .i64 0, .int .i64 0, .int .i64 0, .int .i64 0, .int .i64 0, .int .i64 0]) ?_ 1 _ rfl; refine blk_put (cs := #[.int .i64 0, .int .i64 0, .int .i64 0, .int .i64 0, .int .i64 0, .int .i64 0]) ?_ 0 _ rfl; exact BKZ.out) Try.underlying28 rfl (by kernel_rfl)) rfl ?_
    exact ⟨by first | rfl | (simp; done) | (simp [*]; done), by repeat (with_reducible first | exact HB.out | refine below_set ?_ GEZ.out)⟩
  · rw [if_neg c] at h
    have c0 : decide (q < 0) = false := decide_eq_false c
    have c1 : decide (0 ≤ q) = true := decide_eq_true (by omega)
    have hlt : q < (l0_2.length : Int) := by rw [← hq]; exact ix_Alarm_lt _ _ (by rw [hq]; exact c)
    have c2 : decide (q < (l0_2.length : Int)) = true := decide_eq_true hlt
    simp only [Option.some.injEq, Prod.mk.injEq] at h
    obtain ⟨rfl, rfl, rfl, rfl, rfl, rfl, rfl⟩ := h
    have QP := Aside0.mk (show 0 ≤ q by omega)
    have QL := Aside0.mk hlt
    clear c hq hlt
    go_enter Try.func21, Try.ntmps21
    go_wp2_with (first | ((with_reducible refine gate_dst (N := 2) rfl ?_); refine box_event ?hg (N := 2) ?hd (cs := #[.int .i64 a0_0, .int .i64 a0_1, .slice A0_2 l0_2.length c0_2]) (t := 24) ?hr ?_; (case hd => rfl); (case hg => rfl); (case hr => first | (go_simp; done) | (go_simp; rfl)); intro gbB hg w3 hbox hb; have n0_ := Aside0.mk (below_step HB.out hb); have n1_ := Aside0.mk hbox; have n2_ := Aside0.mk ((by rw [hg]; exact (below_size HB.out)) : w.heap.size ≤ gbB); clear HB; have HB := n0_; have BKB := n1_; have GEB := n2_; clear n0_ n1_ n2_; clear hb hbox hg) | ((with_reducible refine gate_dst (N := 3) rfl ?_); refine box_event ?hg (N := 3) ?hd (cs := #[.int .i64 a1_0, .int .i64 a1_1]) (t := 26) ?hr ?_; (case hd => rfl); (case hg => rfl); (case hr => first | (go_simp; done) | (go_simp; rfl)); intro gbS hg w4 hbox hb; have n0_ := Aside0.mk (below_step HB.out hb); have n1_ := Aside0.mk hbox; have n2_ := Aside0.mk ((by rw [hg]; exact (below_size HB.out)) : w.heap.size ≤ gbS); have m0_ := Aside0.mk (blk_below BKB.out hb); clear HB; clear BKB; have HB := n0_; have BKS := n1_; have GES := n2_; have BKB := m0_; clear n0_ n1_ n2_ m0_; clear hb hbox hg) | ((with_reducible refine gate_dst (N := 4) rfl ?_); refine box_event ?hg (N := 4) ?hd (cs := #[.int .i64 0, .int .i64 0, .int .i64 0, .int .i64 0, .int .i64 0, .int .i64 0]) (t := 28) ?hr ?_; (case hd => rfl); (case hg => rfl); (case hr => first | (go_simp; done) | (go_simp; rfl)); intro gbZ hg w5 hbox hb; have n0_ := Aside0.mk (below_step HB.out hb); have n1_ := Aside0.mk hbox; have n2_ := Aside0.mk ((by rw [hg]; exact (below_size HB.out)) : w.heap.size ≤ gbZ); have m0_ := Aside0.mk (blk_below BKB.out hb); have m1_ := Aside0.mk (blk_below BKS.out hb); clear HB; clear BKB; clear BKS; have HB := n0_; have BKZ := n1_; have GEZ := n2_; have BKB := m0_; have BKS := m1_; clear n0_ n1_ n2_ m0_ m1_; clear hb hbox hg; have hczB_0 : w5.cell? ⟨gbB, 0, none⟩ = some (.int .i64 a0_0) := (blk_cell BKB.out 0).trans rfl; have hczB_1 : w5.cell? ⟨gbB, 1, none⟩ = some (.int .i64 a0_1) := (blk_cell BKB.out 1).trans rfl; have hczB_2 : w5.cell? ⟨gbB, 2, none⟩ = some (.slice A0_2 l0_2.length c0_2) := (blk_cell BKB.out 2).trans rfl; have HCON := Aside0.mk (ixfunc_Alarm.calls (fun x => decide (x.f0.f0 = a1_0) && decide (x.f0.f1 = a1_1)) 59 #[.pointer (some ⟨gbS, 0, none⟩)] eg A0_2 c0_2 l0_2 w5 (fun W x hb => board_Get.one a1_0 a1_1 gbS w5 (blk_lt BKS.out) ((blk_cell BKS.out 0).trans rfl) ((blk_cell BKS.out 1).trans rfl) W x hb) (Kd.C_below HR.out HB.out))) | (go_at_call 58; refine HCON.out.mono ?_; rintro e w6 ⟨rfl, hb⟩; rw [Q.out]; have n0_ := Aside0.mk (below_step HB.out hb); have m0_ := Aside0.mk (blk_below BKB.out hb); have m1_ := Aside0.mk (blk_below BKZ.out hb); clear HCON HB BKB BKZ; have HB := n0_; have BKB := m0_; have BKZ := m1_; clear n0_ m0_ m1_ hb; have hczB_0 : w6.cell? ⟨gbB, 0, none⟩ = some (.int .i64 a0_0) := (blk_cell BKB.out 0).trans rfl; have hczB_1 : w6.cell? ⟨gbB, 1, none⟩ = some (.int .i64 a0_1) := (blk_cell BKB.out 1).trans rfl; have hczB_2 : w6.cell? ⟨gbB, 2, none⟩ = some (.slice A0_2 l0_2.length c0_2) := (blk_cell BKB.out 2).trans rfl; have hczZ_0 : w6.cell? ⟨gbZ, 0, none⟩ = some (.int .i64 0) := (blk_cell BKZ.out 0).trans rfl; have hczZ_1 : w6.cell? ⟨gbZ, 1, none⟩ = some (.int .i64 0) := (blk_cell BKZ.out 1).trans rfl; have hczZ_2 : w6.cell? ⟨gbZ, 2, none⟩ = some (.int .i64 0) := (blk_cell BKZ.out 2).trans rfl; have hczZ_3 : w6.cell? ⟨gbZ, 3, none⟩ = some (.int .i64 0) := (blk_cell BKZ.out 3).trans rfl; have hczZ_4 : w6.cell? ⟨gbZ, 4, none⟩ = some (.int .i64 0) := (blk_cell BKZ.out 4).trans rfl; have hczZ_5 : w6.cell? ⟨gbZ, 5, none⟩ = some (.int .i64 0) := (blk_cell BKZ.out 5).trans rfl; have hfzZ_0 := blk_frozen BKZ.out 0; have hfzZ_1 := blk_frozen BKZ.out 1; have hfzZ_2 := blk_frozen BKZ.out 2; have hfzZ_3 := blk_frozen BKZ.out 3; have hfzZ_4 := blk_frozen BKZ.out 4; have hfzZ_5 := blk_frozen BKZ.out 5; obtain ⟨ad, e0, hx0, hx1, hx2, hx3, hx4, hx5⟩ := at_T28 (Kd.C_below HR.out HB.out) q QP.out QL.out; cases e0; have p_ := eq_true QP.out; have q_ := eq_true QL.out))
    refine bodyPost_ret (results_ct rfl _ _ gbZ 28 #[.int .i64 (rd_T28 l0_2 q).f0.f0, .int .i64 (rd_T28 l0_2 q).f0.f1, .int .i64 (rd_T28 l0_2 q).f1, .int .i64 (rd_T28 l0_2 q).f2, .int .i64 (rd_T28 l0_2 q).f3, .int .i64 (rd_T28 l0_2 q).f4] (0, 0) _ rfl (by refine blk_put (cs := #[.int .i64 (rd_T28 l0_2 q).f0.f0, .int .i64 (rd_T28 l0_2 q).f0.f1, .int .i64 (rd_T28 l0_2 q).f1, .int .i64 (rd_T28 l0_2 q).f2, .int .i64 (rd_T28 l0_2 q).f3, .int .i64 0]) ?_ 5 _ rfl; refine blk_put (cs := #[.int .i64 (rd_T28 l0_2 q).f0.f0, .int .i64 (rd_T28 l0_2 q).f0.f1, .int .i64 (rd_T28 l0_2 q).f1, .int .i64 (rd_T28 l0_2 q).f2, .int .i64 0, .int .i64 0]) ?_ 4 _ rfl; refine blk_put (cs := #[.int .i64 (rd_T28 l0_2 q).f0.f0, .int .i64 (rd_T28 l0_2 q).f0.f1, .int .i64 (rd_T28 l0_2 q).f1, .int .i64 0, .int .i64 0, .int .i64 0]) ?_ 3 _ rfl; refine blk_put (cs := #[.int .i64 (rd_T28 l0_2 q).f0.f0, .int .i64 (rd_T28 l0_2 q).f0.f1, .int .i64 0, .int .i64 0, .int .i64 0, .int .i64 0]) ?_ 2 _ rfl; refine blk_put (cs := #[.int .i64 (rd_T28 l0_2 q).f0.f0, .int .i64 0, .int .i64 0, .int .i64 0, .int .i64 0, .int .i64 0]) ?_ 1 _ rfl; refine blk_put (cs := #[.int .i64 0, .int .i64 0, .int .i64 0, .int .i64 0, .int .i64 0, .int .i64 0]) ?_ 0 _ rfl; exact BKZ.out) Try.underlying28 rfl (by kernel_rfl)) rfl ?_
    exact ⟨by first | rfl | (simp; done) | (simp [*]; done), by repeat (with_reducible first | exact HB.out | refine below_set ?_ GEZ.out)⟩

/-! ### watchmanref07_Same: function 27 -/
def watchmanref07_Same.l0 : Nat → List (S28) → List (S28) → Int → Option (Bool)
  | 0, _, _, _ => none
  | k + 1, x0, x1, x5 => if x5 < (x0.length : Int) then (if 0 ≤ x5 then (if x5 < (x1.length : Int) then (if ((!(((rd_T28 x0 x5).f0.f0) == ((rd_T28 x1 x5).f0.f0)) || (!(((rd_T28 x0 x5).f0.f1) == ((rd_T28 x1 x5).f0.f1)))) || (!(((rd_T28 x0 x5).f1) == ((rd_T28 x1 x5).f1)) || (!(((rd_T28 x0 x5).f2) == ((rd_T28 x1 x5).f2)) || (!(((rd_T28 x0 x5).f3) == ((rd_T28 x1 x5).f3)) || (!(((rd_T28 x0 x5).f4) == ((rd_T28 x1 x5).f4))))))) = true then (some false) else (watchmanref07_Same.l0 k x0 x1 (wrap64 (x5 + 1)))) else (none)) else (none)) else (some true)
def watchmanref07_Same.f (k : Nat) (l0 : List (S28)) (l1 : List (S28)) : Option (Bool) := if (l0.length : Int) = (l1.length : Int) then (watchmanref07_Same.l0 k l0 l1 0) else (some false)
theorem watchmanref07_Same.mono_l : ∀ k, (∀ y0 y1 y2, LeO (watchmanref07_Same.l0 k y0 y1 y2) (watchmanref07_Same.l0 (k + 1) y0 y1 y2))
  | 0 => fun _ _ _ r h => by simp [watchmanref07_Same.l0] at h
  | k + 1 => by
    have ih0 := watchmanref07_Same.mono_l k
    · intro y0 y1 y2
      unfold watchmanref07_Same.l0
      repeat' first
      | (with_reducible exact ih0 _ _ _)
      | (with_reducible exact LeO.refl _)
      | (with_reducible exact LeO.none _)
      | (with_reducible refine LeO.ite ?_ ?_)
      | (with_reducible refine LeO.bind ?_ (fun _ => ?_))
      | exact ih0 _ _ _
      | exact LeO.none _
      | refine LeO.ite ?_ ?_
      | refine LeO.bind ?_ (fun _ => ?_)
theorem watchmanref07_Same.mono : ∀ a0 a1 k, LeO (watchmanref07_Same.f k a0 a1) (watchmanref07_Same.f (k + 1) a0 a1) := by
  intro a0 a1 k
  have ih0 := watchmanref07_Same.mono_l k
  unfold watchmanref07_Same.f
  repeat' first
      | (with_reducible exact ih0 _ _ _)
      | (with_reducible exact LeO.refl _)
      | (with_reducible exact LeO.none _)
      | (with_reducible refine LeO.ite ?_ ?_)
      | (with_reducible refine LeO.bind ?_ (fun _ => ?_))
      | exact ih0 _ _ _
      | exact LeO.none _
      | refine LeO.ite ?_ ?_
      | refine LeO.bind ?_ (fun _ => ?_)
set_option maxHeartbeats 8000000 in
set_option maxRecDepth 100000 in
theorem watchmanref07_Same.calls (k : Nat) (A0 : Option Addr) (c0 : Nat) (l0 : List (S28)) (A1 : Option Addr) (c1 : Nat) (l1 : List (S28)) (r : Bool) (w : World) (hr0 : Kd.C k28 w A0 l0.length l0) (hc0 : l0.length ≤ c0) (hr1 : Kd.C k28 w A1 l1.length l1) (hc1 : l1.length ≤ c1) (h : watchmanref07_Same.f k l0 l1 = some r) :
    Calls Try.prog 27 #[.slice A0 l0.length c0, .slice A1 l1.length c1] w fun e w' => e = .returned (.bool r) ∧ Drawn0 w w' := by
  have hu28 := Try.underlying28
  have HR0 := Aside0.mk hr0
  have HC0 := Aside0.mk hc0
  clear hr0 hc0
  have HR1 := Aside0.mk hr1
  have HC1 := Aside0.mk hc1
  clear hr1 hc1
  have H : (if (l0.length : Int) = (l1.length : Int) then (watchmanref07_Same.l0 k l0 l1 0) else (some false)) = some r := h
  clear h
  by_cases c3 : (l0.length : Int) = (l1.length : Int)
  · rw [if_pos c3] at H
    have c3b0 : ((l0.length : Int) == (l1.length : Int)) = true := beq_iff_eq.mpr c3
    have c3b1 : ((l0.length : Int) != (l1.length : Int)) = false := bne_eq_false_iff_eq.mpr c3
    have c3b2 : (l0.length == l1.length) = true := by first | simpa using c3 | (simp at c3 ⊢; omega)
    clear c3
    have H' := Aside0.mk H
    clear H
    go_enter Try.func27, Try.ntmps27
    go_wp2
    repeat (go_quiet (fail); try go_wp2)
    go_loopg [5] k (fun kq v5 w' => ∃ (x5_1 : Int), v5 = .int .i64 x5_1 ∧ Aside0 (watchmanref07_Same.l0 kq l0 l1 x5_1 = some r) ∧ Aside0 (kq ≤ k) ∧ Drawn0 w w')
    case atStart => exact ⟨(0), (by first | rfl | (simp; done) | (simp [*]; done)), H', ⟨Nat.le_refl _⟩, by repeat (first | exact Drawn0.refl _ | apply Drawn0.step)⟩
    case round =>
      clear H'
      try clear c1
      try clear c2
      try clear p2
      try clear c3
      try clear c3b0
      try clear c3b1
      try clear c3b2
      obtain ⟨x5_1, rfl, HA, HK1, ⟨m1, rfl⟩⟩ := hrel
      cases gk with
      | zero => exact absurd HA.out (by simp [watchmanref07_Same.l0])
      | succ k1 =>
        have H := HA.out
        clear HA
        simp only [watchmanref07_Same.l0] at H
        by_cases c4 : x5_1 < (l0.length : Int)
        · rw [if_pos c4] at H
          have c4b0 : decide (x5_1 < (l0.length : Int)) = true := decide_eq_true c4
          clear c4
          by_cases c5 : 0 ≤ x5_1
          · rw [if_pos c5] at H
            have c5b0 : decide (0 ≤ x5_1) = true := decide_eq_true c5
            clear c5
            by_cases c6 : x5_1 < (l1.length : Int)
            · rw [if_pos c6] at H
              have c6b0 : decide (x5_1 < (l1.length : Int)) = true := decide_eq_true c6
              clear c6
              by_cases c7 : ((!(((rd_T28 l0 x5_1).f0.f0) == ((rd_T28 l1 x5_1).f0.f0)) || (!(((rd_T28 l0 x5_1).f0.f1) == ((rd_T28 l1 x5_1).f0.f1)))) || (!(((rd_T28 l0 x5_1).f1) == ((rd_T28 l1 x5_1).f1)) || (!(((rd_T28 l0 x5_1).f2) == ((rd_T28 l1 x5_1).f2)) || (!(((rd_T28 l0 x5_1).f3) == ((rd_T28 l1 x5_1).f3)) || (!(((rd_T28 l0 x5_1).f4) == ((rd_T28 l1 x5_1).f4))))))) = true
              · rw [if_pos c7] at H
                have c7b0 : ((!(((rd_T28 l0 x5_1).f0.f0) == ((rd_T28 l1 x5_1).f0.f0)) || (!(((rd_T28 l0 x5_1).f0.f1) == ((rd_T28 l1 x5_1).f0.f1)))) || (!(((rd_T28 l0 x5_1).f1) == ((rd_T28 l1 x5_1).f1)) || (!(((rd_T28 l0 x5_1).f2) == ((rd_T28 l1 x5_1).f2)) || (!(((rd_T28 l0 x5_1).f3) == ((rd_T28 l1 x5_1).f3)) || (!(((rd_T28 l0 x5_1).f4) == ((rd_T28 l1 x5_1).f4))))))) = true := c7
                clear c7
                obtain rfl := Option.some.inj H
                have p183 : 0 ≤ (x5_1 : Int) := of_decide_eq_true (by first | (with_reducible assumption) | assumption)
                have q183 : x5_1 < (l0.length : Int) := of_decide_eq_true (by first | (with_reducible assumption) | assumption)
                obtain ⟨ad183, e183, hx183_0, hx183_1, hx183_2, hx183_3, hx183_4, hx183_5⟩ := at_T28 HR0.out x5_1 p183 q183
                cases e183
                replace p183 := eq_true p183
                replace q183 := eq_true q183
                have p184 : 0 ≤ (x5_1 : Int) := of_decide_eq_true (by first | (with_reducible assumption) | assumption)
                have q184 : x5_1 < (l1.length : Int) := of_decide_eq_true (by first | (with_reducible assumption) | assumption)
                obtain ⟨ad184, e184, hx184_0, hx184_1, hx184_2, hx184_3, hx184_4, hx184_5⟩ := at_T28 HR1.out x5_1 p184 q184
                cases e184
                replace p184 := eq_true p184
                replace q184 := eq_true q184
                go_wp2
                repeat (go_quiet (fail); try go_wp2)
                go_ret
                exact ⟨by first | rfl | (simp; done) | (simp [*]; done), by repeat (first | exact Drawn0.refl _ | apply Drawn0.step)⟩
              · rw [if_neg c7] at H
                have c7b0 : ((!(((rd_T28 l0 x5_1).f0.f0) == ((rd_T28 l1 x5_1).f0.f0)) || (!(((rd_T28 l0 x5_1).f0.f1) == ((rd_T28 l1 x5_1).f0.f1)))) || (!(((rd_T28 l0 x5_1).f1) == ((rd_T28 l1 x5_1).f1)) || (!(((rd_T28 l0 x5_1).f2) == ((rd_T28 l1 x5_1).f2)) || (!(((rd_T28 l0 x5_1).f3) == ((rd_T28 l1 x5_1).f3)) || (!(((rd_T28 l0 x5_1).f4) == ((rd_T28 l1 x5_1).f4))))))) = false := by simpa using c7
                clear c7
                have H' := Aside0.mk H
                clear H
                have p183 : 0 ≤ (x5_1 : Int) := of_decide_eq_true (by first | (with_reducible assumption) | assumption)
                have q183 : x5_1 < (l0.length : Int) := of_decide_eq_true (by first | (with_reducible assumption) | assumption)
                obtain ⟨ad183, e183, hx183_0, hx183_1, hx183_2, hx183_3, hx183_4, hx183_5⟩ := at_T28 HR0.out x5_1 p183 q183
                cases e183
                replace p183 := eq_true p183
                replace q183 := eq_true q183
                have p184 : 0 ≤ (x5_1 : Int) := of_decide_eq_true (by first | (with_reducible assumption) | assumption)
                have q184 : x5_1 < (l1.length : Int) := of_decide_eq_true (by first | (with_reducible assumption) | assumption)
                obtain ⟨ad184, e184, hx184_0, hx184_1, hx184_2, hx184_3, hx184_4, hx184_5⟩ := at_T28 HR1.out x5_1 p184 q184
                cases e184
                replace p184 := eq_true p184
                replace q184 := eq_true q184
                go_wp2
                repeat (go_quiet (fail); try go_wp2)
                go_roundg k1
                case measure => have := HK1.out; omega
                case rel => exact ⟨(wrap64 (x5_1 + 1)), (by first | rfl | (simp; done) | (simp [*]; done)), H', ⟨by have := HK1.out; omega⟩, by repeat (first | exact Drawn0.refl _ | apply Drawn0.step)⟩
            · rw [if_neg c6] at H
              exact absurd H (by simp)
          · rw [if_neg c5] at H
            exact absurd H (by simp)
        · rw [if_neg c4] at H
          have c4b0 : decide (x5_1 < (l0.length : Int)) = false := decide_eq_false c4
          clear c4
          obtain rfl := Option.some.inj H
          go_wp2
          repeat (go_quiet (fail); try go_wp2)
          go_ret
          exact ⟨by first | rfl | (simp; done) | (simp [*]; done), by repeat (first | exact Drawn0.refl _ | apply Drawn0.step)⟩
  · rw [if_neg c3] at H
    have c3b0 : ((l0.length : Int) == (l1.length : Int)) = false := beq_eq_false_iff_ne.mpr c3
    have c3b1 : ((l0.length : Int) != (l1.length : Int)) = true := bne_iff_ne.mpr c3
    have c3b2 : (l0.length == l1.length) = false := by first | simpa using c3 | (simp at c3 ⊢; omega)
    obtain rfl := Option.some.inj H
    go_enter Try.func27, Try.ntmps27
    go_wp2
    repeat (go_quiet (fail); try go_wp2)
    go_ret
    exact ⟨by first | rfl | (simp; done) | (simp [*]; done), by repeat (first | exact Drawn0.refl _ | apply Drawn0.step)⟩

/-! ### watchmanref08_Same: function 25 -/
def watchmanref08_Same.f (k : Nat) (a0_0 : Int) (a0_1 : Int) (l0_2 : List (S28)) (a1_0 : Int) (a1_1 : Int) (l1_2 : List (S28)) : Option (Bool) := if a0_0 = a1_0 then (if a0_1 = a1_1 then ((watchmanref07_Same.f k l0_2 l1_2).bind fun t187 => (some t187)) else (some false)) else (some false)
theorem watchmanref08_Same.mono : ∀ a0 a1 a2 a3 a4 a5 k, LeO (watchmanref08_Same.f k a0 a1 a2 a3 a4 a5) (watchmanref08_Same.f (k + 1) a0 a1 a2 a3 a4 a5) := by
  intro a0 a1 a2 a3 a4 a5 k
  unfold watchmanref08_Same.f
  repeat' first
      | (with_reducible exact watchmanref07_Same.mono _ _ _)
      | (with_reducible exact LeO.refl _)
      | (with_reducible exact LeO.none _)
      | (with_reducible refine LeO.ite ?_ ?_)
      | (with_reducible refine LeO.bind ?_ (fun _ => ?_))
      | exact watchmanref07_Same.mono _ _ _
      | exact LeO.none _
      | refine LeO.ite ?_ ?_
      | refine LeO.bind ?_ (fun _ => ?_)
set_option maxHeartbeats 8000000 in
set_option maxRecDepth 100000 in
theorem watchmanref08_Same.calls (k : Nat) (a0_0 : Int) (a0_1 : Int) (A0_2 : Option Addr) (c0_2 : Nat) (l0_2 : List (S28)) (a1_0 : Int) (a1_1 : Int) (A1_2 : Option Addr) (c1_2 : Nat) (l1_2 : List (S28)) (r : Bool) (w : World) (hr0_2 : Kd.C k28 w A0_2 l0_2.length l0_2) (hc0_2 : l0_2.length ≤ c0_2) (hr1_2 : Kd.C k28 w A1_2 l1_2.length l1_2) (hc1_2 : l1_2.length ≤ c1_2) (h : watchmanref08_Same.f k a0_0 a0_1 l0_2 a1_0 a1_1 l1_2 = some r) :
    Calls Try.prog 25 #[.agg #[.int .i64 a0_0, .int .i64 a0_1, .slice A0_2 l0_2.length c0_2], .agg #[.int .i64 a1_0, .int .i64 a1_1, .slice A1_2 l1_2.length c1_2]] w fun e w' => e = .returned (.bool r) ∧ Below w.heap.size w w' := by
  have hu24 := Try.underlying24
  have HR0_2 := Aside0.mk hr0_2
  have HC0_2 := Aside0.mk hc0_2
  clear hr0_2 hc0_2
  have HR1_2 := Aside0.mk hr1_2
  have HC1_2 := Aside0.mk hc1_2
  clear hr1_2 hc1_2
  have HB := Aside0.mk (Below.refl w.heap.size w)
  have H : (if a0_0 = a1_0 then (if a0_1 = a1_1 then ((watchmanref07_Same.f k l0_2 l1_2).bind fun t187 => (some t187)) else (some false)) else (some false)) = some r := h
  clear h
  by_cases c3 : a0_0 = a1_0
  · rw [if_pos c3] at H
    have c3b0 : (a0_0 == a1_0) = true := beq_iff_eq.mpr c3
    have c3b1 : (a0_0 != a1_0) = false := bne_eq_false_iff_eq.mpr c3
    clear c3
    by_cases c4 : a0_1 = a1_1
    · rw [if_pos c4] at H
      have c4b0 : (a0_1 == a1_1) = true := beq_iff_eq.mpr c4
      have c4b1 : (a0_1 != a1_1) = false := bne_eq_false_iff_eq.mpr c4
      clear c4
      replace H := Option.bind_eq_some_iff.mp H
      obtain ⟨t187, A50, H⟩ := H
      replace H : (some t187) = some r := H
      have A5 := Aside0.mk A50
      clear A50
      obtain rfl := Option.some.inj H
      go_enter Try.func25, Try.ntmps25
      go_wp2_with (first | ((with_reducible refine gate_dst (N := 2) rfl ?_); refine box_event ?hg (N := 2) ?hd (cs := #[.int .i64 a0_0, .int .i64 a0_1, .slice A0_2 l0_2.length c0_2]) (t := 24) ?hr ?_; (case hd => rfl); (case hg => rfl); (case hr => first | (go_simp; done) | (go_simp; rfl)); intro gb185 hg w6 hbox hb; have n0_ := Aside0.mk (below_step HB.out hb); have n1_ := Aside0.mk (hbox); have n2_ := Aside0.mk ((by rw [hg]; exact (below_size HB.out) : w.heap.size ≤ gb185)); have n3_ := Aside0.mk ((by rw [hg]; exact (below_size HB.out) : w.heap.size ≤ gb185)); clear HB; have HB := n0_; have BK185 := n1_; have GW185 := n2_; have GE185 := n3_; clear n0_ n1_ n2_ n3_; clear hb hbox hg) | ((with_reducible refine gate_dst (N := 3) rfl ?_); refine box_event ?hg (N := 3) ?hd (cs := #[.int .i64 a1_0, .int .i64 a1_1, .slice A1_2 l1_2.length c1_2]) (t := 24) ?hr ?_; (case hd => rfl); (case hg => rfl); (case hr => first | (go_simp; done) | (go_simp; rfl)); intro gb186 hg w7 hbox hb; have n0_ := Aside0.mk (blk_below BK185.out hb); have n1_ := Aside0.mk (below_step (by repeat (with_reducible first | exact HB.out | apply pw_below_drewN | apply below_drew1 | refine below_set ?_ GE185.out)) hb); have n2_ := Aside0.mk (hbox); have n3_ := Aside0.mk ((by rw [hg]; exact (below_size (by repeat (with_reducible first | exact HB.out | apply pw_below_drewN | apply below_drew1 | refine below_set ?_ GE185.out))) : w.heap.size ≤ gb186)); have n4_ := Aside0.mk ((by rw [hg]; exact (below_size (by repeat (with_reducible first | exact HB.out | apply pw_below_drewN | apply below_drew1 | refine below_set ?_ GE185.out))) : w.heap.size ≤ gb186)); have n5_ := Aside0.mk ((by rw [hg]; exact Nat.ne_of_lt (blk_lt BK185.out) : gb185 ≠ gb186)); have n6_ := Aside0.mk ((by rw [hg]; exact Nat.ne_of_gt (blk_lt BK185.out) : gb186 ≠ gb185)); clear BK185; clear HB; have BK185 := n0_; have HB := n1_; have BK186 := n2_; have GW186 := n3_; have GE186 := n4_; have NB185_186 := n5_; have NB186_185 := n6_; clear n0_ n1_ n2_ n3_ n4_ n5_ n6_; clear hb hbox hg; have hnb8 := NB185_186.out; have hnc8 := NB186_185.out; have hcz9_0 : w7.cell? ⟨gb185, 0, none⟩ = some (.int .i64 a0_0) := (blk_cell BK185.out 0).trans rfl; have hcz9_1 : w7.cell? ⟨gb185, 1, none⟩ = some (.int .i64 a0_1) := (blk_cell BK185.out 1).trans rfl; have hcz9_2 : w7.cell? ⟨gb185, 2, none⟩ = some (.slice A0_2 l0_2.length c0_2) := (blk_cell BK185.out 2).trans rfl; have hfz9_0 := blk_frozen BK185.out 0; have hfz9_1 := blk_frozen BK185.out 1; have hfz9_2 := blk_frozen BK185.out 2; have hcz10_0 : w7.cell? ⟨gb186, 0, none⟩ = some (.int .i64 a1_0) := (blk_cell BK186.out 0).trans rfl; have hcz10_1 : w7.cell? ⟨gb186, 1, none⟩ = some (.int .i64 a1_1) := (blk_cell BK186.out 1).trans rfl; have hcz10_2 : w7.cell? ⟨gb186, 2, none⟩ = some (.slice A1_2 l1_2.length c1_2) := (blk_cell BK186.out 2).trans rfl; have hfz10_0 := blk_frozen BK186.out 0; have hfz10_1 := blk_frozen BK186.out 1; have hfz10_2 := blk_frozen BK186.out 2) | (go_at_call 27; (with_reducible refine (watchmanref07_Same.calls k _ _ l0_2 _ _ l1_2 t187 _ ?side1 ?side2 ?side3 ?side4 A5.out).mono ?_); (case side1 => exact (Kd.C_below HR0_2.out HB.out)); (case side2 => exact HC0_2.out); (case side3 => exact (Kd.C_below HR1_2.out HB.out)); (case side4 => exact HC1_2.out); rintro e w' ⟨rfl, ⟨nd, rfl⟩⟩))
      go_ret
      exact ⟨by first | rfl | (simp [errW_none, errW_some] <;> rfl) | (simp [*, errW_none, errW_some] <;> rfl), by repeat (with_reducible first | exact HB.out | apply pw_below_drewN | apply below_drew1 | refine below_set ?_ GE185.out | refine below_set ?_ GE186.out)⟩
    · rw [if_neg c4] at H
      have c4b0 : (a0_1 == a1_1) = false := beq_eq_false_iff_ne.mpr c4
      have c4b1 : (a0_1 != a1_1) = true := bne_iff_ne.mpr c4
      obtain rfl := Option.some.inj H
      go_enter Try.func25, Try.ntmps25
      go_wp2_with (first | ((with_reducible refine gate_dst (N := 2) rfl ?_); refine box_event ?hg (N := 2) ?hd (cs := #[.int .i64 a0_0, .int .i64 a0_1, .slice A0_2 l0_2.length c0_2]) (t := 24) ?hr ?_; (case hd => rfl); (case hg => rfl); (case hr => first | (go_simp; done) | (go_simp; rfl)); intro gb185 hg w11 hbox hb; have n0_ := Aside0.mk (below_step HB.out hb); have n1_ := Aside0.mk (hbox); have n2_ := Aside0.mk ((by rw [hg]; exact (below_size HB.out) : w.heap.size ≤ gb185)); have n3_ := Aside0.mk ((by rw [hg]; exact (below_size HB.out) : w.heap.size ≤ gb185)); clear HB; have HB := n0_; have BK185 := n1_; have GW185 := n2_; have GE185 := n3_; clear n0_ n1_ n2_ n3_; clear hb hbox hg) | ((with_reducible refine gate_dst (N := 3) rfl ?_); refine box_event ?hg (N := 3) ?hd (cs := #[.int .i64 a1_0, .int .i64 a1_1, .slice A1_2 l1_2.length c1_2]) (t := 24) ?hr ?_; (case hd => rfl); (case hg => rfl); (case hr => first | (go_simp; done) | (go_simp; rfl)); intro gb186 hg w12 hbox hb; have n0_ := Aside0.mk (blk_below BK185.out hb); have n1_ := Aside0.mk (below_step (by repeat (with_reducible first | exact HB.out | apply pw_below_drewN | apply below_drew1 | refine below_set ?_ GE185.out)) hb); have n2_ := Aside0.mk (hbox); have n3_ := Aside0.mk ((by rw [hg]; exact (below_size (by repeat (with_reducible first | exact HB.out | apply pw_below_drewN | apply below_drew1 | refine below_set ?_ GE185.out))) : w.heap.size ≤ gb186)); have n4_ := Aside0.mk ((by rw [hg]; exact (below_size (by repeat (with_reducible first | exact HB.out | apply pw_below_drewN | apply below_drew1 | refine below_set ?_ GE185.out))) : w.heap.size ≤ gb186)); have n5_ := Aside0.mk ((by rw [hg]; exact Nat.ne_of_lt (blk_lt BK185.out) : gb185 ≠ gb186)); have n6_ := Aside0.mk ((by rw [hg]; exact Nat.ne_of_gt (blk_lt BK185.out) : gb186 ≠ gb185)); clear BK185; clear HB; have BK185 := n0_; have HB := n1_; have BK186 := n2_; have GW186 := n3_; have GE186 := n4_; have NB185_186 := n5_; have NB186_185 := n6_; clear n0_ n1_ n2_ n3_ n4_ n5_ n6_; clear hb hbox hg; have hnb13 := NB185_186.out; have hnc13 := NB186_185.out; have hcz14_0 : w12.cell? ⟨gb185, 0, none⟩ = some (.int .i64 a0_0) := (blk_cell BK185.out 0).trans rfl; have hcz14_1 : w12.cell? ⟨gb185, 1, none⟩ = some (.int .i64 a0_1) := (blk_cell BK185.out 1).trans rfl; have hcz14_2 : w12.cell? ⟨gb185, 2, none⟩ = some (.slice A0_2 l0_2.length c0_2) := (blk_cell BK185.out 2).trans rfl; have hfz14_0 := blk_frozen BK185.out 0; have hfz14_1 := blk_frozen BK185.out 1; have hfz14_2 := blk_frozen BK185.out 2; have hcz15_0 : w12.cell? ⟨gb186, 0, none⟩ = some (.int .i64 a1_0) := (blk_cell BK186.out 0).trans rfl; have hcz15_1 : w12.cell? ⟨gb186, 1, none⟩ = some (.int .i64 a1_1) := (blk_cell BK186.out 1).trans rfl; have hcz15_2 : w12.cell? ⟨gb186, 2, none⟩ = some (.slice A1_2 l1_2.length c1_2) := (blk_cell BK186.out 2).trans rfl; have hfz15_0 := blk_frozen BK186.out 0; have hfz15_1 := blk_frozen BK186.out 1; have hfz15_2 := blk_frozen BK186.out 2))
      go_ret
      exact ⟨by first | rfl | (simp [errW_none, errW_some] <;> rfl) | (simp [*, errW_none, errW_some] <;> rfl), by repeat (with_reducible first | exact HB.out | apply pw_below_drewN | apply below_drew1 | refine below_set ?_ GE185.out | refine below_set ?_ GE186.out)⟩
  · rw [if_neg c3] at H
    have c3b0 : (a0_0 == a1_0) = false := beq_eq_false_iff_ne.mpr c3
    have c3b1 : (a0_0 != a1_0) = true := bne_iff_ne.mpr c3
    obtain rfl := Option.some.inj H
    go_enter Try.func25, Try.ntmps25
    go_wp2_with (first | ((with_reducible refine gate_dst (N := 2) rfl ?_); refine box_event ?hg (N := 2) ?hd (cs := #[.int .i64 a0_0, .int .i64 a0_1, .slice A0_2 l0_2.length c0_2]) (t := 24) ?hr ?_; (case hd => rfl); (case hg => rfl); (case hr => first | (go_simp; done) | (go_simp; rfl)); intro gb185 hg w16 hbox hb; have n0_ := Aside0.mk (below_step HB.out hb); have n1_ := Aside0.mk (hbox); have n2_ := Aside0.mk ((by rw [hg]; exact (below_size HB.out) : w.heap.size ≤ gb185)); have n3_ := Aside0.mk ((by rw [hg]; exact (below_size HB.out) : w.heap.size ≤ gb185)); clear HB; have HB := n0_; have BK185 := n1_; have GW185 := n2_; have GE185 := n3_; clear n0_ n1_ n2_ n3_; clear hb hbox hg) | ((with_reducible refine gate_dst (N := 3) rfl ?_); refine box_event ?hg (N := 3) ?hd (cs := #[.int .i64 a1_0, .int .i64 a1_1, .slice A1_2 l1_2.length c1_2]) (t := 24) ?hr ?_; (case hd => rfl); (case hg => rfl); (case hr => first | (go_simp; done) | (go_simp; rfl)); intro gb186 hg w17 hbox hb; have n0_ := Aside0.mk (blk_below BK185.out hb); have n1_ := Aside0.mk (below_step (by repeat (with_reducible first | exact HB.out | apply pw_below_drewN | apply below_drew1 | refine below_set ?_ GE185.out)) hb); have n2_ := Aside0.mk (hbox); have n3_ := Aside0.mk ((by rw [hg]; exact (below_size (by repeat (with_reducible first | exact HB.out | apply pw_below_drewN | apply below_drew1 | refine below_set ?_ GE185.out))) : w.heap.size ≤ gb186)); have n4_ := Aside0.mk ((by rw [hg]; exact (below_size (by repeat (with_reducible first | exact HB.out | apply pw_below_drewN | apply below_drew1 | refine below_set ?_ GE185.out))) : w.heap.size ≤ gb186)); have n5_ := Aside0.mk ((by rw [hg]; exact Nat.ne_of_lt (blk_lt BK185.out) : gb185 ≠ gb186)); have n6_ := Aside0.mk ((by rw [hg]; exact Nat.ne_of_gt (blk_lt BK185.out) : gb186 ≠ gb185)); clear BK185; clear HB; have BK185 := n0_; have HB := n1_; have BK186 := n2_; have GW186 := n3_; have GE186 := n4_; have NB185_186 := n5_; have NB186_185 := n6_; clear n0_ n1_ n2_ n3_ n4_ n5_ n6_; clear hb hbox hg; have hnb18 := NB185_186.out; have hnc18 := NB186_185.out; have hcz19_0 : w17.cell? ⟨gb185, 0, none⟩ = some (.int .i64 a0_0) := (blk_cell BK185.out 0).trans rfl; have hcz19_1 : w17.cell? ⟨gb185, 1, none⟩ = some (.int .i64 a0_1) := (blk_cell BK185.out 1).trans rfl; have hcz19_2 : w17.cell? ⟨gb185, 2, none⟩ = some (.slice A0_2 l0_2.length c0_2) := (blk_cell BK185.out 2).trans rfl; have hfz19_0 := blk_frozen BK185.out 0; have hfz19_1 := blk_frozen BK185.out 1; have hfz19_2 := blk_frozen BK185.out 2; have hcz20_0 : w17.cell? ⟨gb186, 0, none⟩ = some (.int .i64 a1_0) := (blk_cell BK186.out 0).trans rfl; have hcz20_1 : w17.cell? ⟨gb186, 1, none⟩ = some (.int .i64 a1_1) := (blk_cell BK186.out 1).trans rfl; have hcz20_2 : w17.cell? ⟨gb186, 2, none⟩ = some (.slice A1_2 l1_2.length c1_2) := (blk_cell BK186.out 2).trans rfl; have hfz20_0 := blk_frozen BK186.out 0; have hfz20_1 := blk_frozen BK186.out 1; have hfz20_2 := blk_frozen BK186.out 2))
    go_ret
    exact ⟨by first | rfl | (simp [errW_none, errW_some] <;> rfl) | (simp [*, errW_none, errW_some] <;> rfl), by repeat (with_reducible first | exact HB.out | apply pw_below_drewN | apply below_drew1 | refine below_set ?_ GE185.out | refine below_set ?_ GE186.out)⟩

end Go.Proofs.Ytcfpbmdndapeaaa.F
