-- Written by a program of this session (xprint.py), out of the translation and of contracts proved by hand.
import Derived.Test.YtofbkpdpgmjllaaF0
import Derived.Test.YtofbkpdpgmjllaaF4
import Derived.Test.YtofbkpdpgmjllaaF5
import Derived.Test.YtofbkpdpgmjllaaF13
namespace Go.Proofs.Ytofbkpdpgmjllaa.F
open Go.RowKit Go.Proofs.YtofbkpdpgmjllaaV.PrintWords Go.Proofs.YtofbkpdpgmjllaaV.PrintLast Go.Proofs.YtofbkpdpgmjllaaV.PrintMore
attribute [local go_sem] max2_int min2_int max_two min_two max_three min_three max_four min_four   -- for this text's walks alone
set_option linter.unusedVariables false
set_option linter.unusedSimpArgs false

/-! ### post_Only: function 17 -/
def post_Only.f (k : Nat) (a0_0 : Int) (l0_1 : List S35) (l1 : List Int) : Option (Int × List S35 × Int) :=
  (post_Is.f k a0_0 l0_1).bind fun b => if l0_1.length < 2199023255552 then (if b = true then some (a0_0, l0_1.filter (fun x => l1.contains x.f2), 0) else some (0, [], 1)) else none
theorem post_Only.mono : ∀ a0 a1 a2 k, LeO (post_Only.f k a0 a1 a2) (post_Only.f (k + 1) a0 a1 a2) := by
  intro a0 a1 a2 k
  unfold post_Only.f
  exact LeO.bind (post_Is.mono a0 a1 k) (fun b => LeO.refl _)
theorem post_Only.wr {i : Int} (h : 0 ≤ i) (h' : i < 9223372036854775807) : wrap64 (i + 1) = i + 1 := by unfold wrap64; omega
theorem post_Only.rd_ (l : List Int) (i : Nat) (h : i < l.length) : rd l (i : Int) = l[i] := by
  simp [rd, List.getD_eq_getElem?_getD, List.getElem?_eq_getElem h]
theorem post_Only.index (l : List Int) (v : Int) (hb : l.length ≤ 9223372036854775807) : ∀ (d i : Nat), i + d = l.length → ∃ r : Int, (∃ k, slices_Index_int_int.l0 k l v (l.length : Int) (i : Int) = some r) ∧ (decide (r ≥ 0) = (l.drop i).contains v) := by
  intro d
  induction d with
  | zero =>
    intro i hi
    refine ⟨-1, ⟨1, ?_⟩, by rw [List.drop_eq_nil_of_le (by omega)]; rfl⟩
    simp only [slices_Index_int_int.l0]
    rw [if_neg (by omega)]
  | succ d ih =>
    intro i hi
    have hi2 : i < l.length := by omega
    by_cases he : v = l[i]
    · refine ⟨(i : Int), ⟨1, ?_⟩, ?_⟩
      · simp only [slices_Index_int_int.l0]
        rw [if_pos (by omega), if_pos (by omega), if_pos (by omega), post_Only.rd_ l i hi2, if_pos he]
      · have h3 : (l[i] :: l.drop (i + 1)).contains l[i] = true := by rw [List.contains_cons]; simp only [beq_self_eq_true, Bool.true_or]
        rw [List.drop_eq_getElem_cons hi2, he, decide_eq_true (by omega)]
        exact h3.symm
    · obtain ⟨r, ⟨k, hk⟩, h2⟩ := ih (i + 1) (by omega)
      refine ⟨r, ⟨k + 1, ?_⟩, ?_⟩
      · simp only [slices_Index_int_int.l0]
        rw [if_pos (by omega), if_pos (by omega), if_pos (by omega), post_Only.rd_ l i hi2, if_neg he, post_Only.wr (by omega) (by omega)]
        exact hk
      · rw [h2, List.drop_eq_getElem_cons hi2, List.contains_cons]
        rw [show (v == l[i]) = false from beq_eq_false_iff_ne.2 he]; rfl
theorem post_Only.has (l : List Int) (v : Int) (hb : l.length ≤ 9223372036854775807) : ∃ k, slices_Contains_int_int.f k l v = some (l.contains v) := by
  obtain ⟨r, ⟨k, hk⟩, h2⟩ := post_Only.index l v hb l.length 0 (by omega)
  refine ⟨k, ?_⟩
  unfold slices_Contains_int_int.f slices_Index_int_int.f
  rw [show ((0 : Nat) : Int) = 0 from rfl] at hk
  rw [hk, Option.bind_some, h2, List.drop_zero]
theorem post_Only.one (A1 : Option Addr) (c1 : Nat) (l1 : List Int) (B : Nat) (W : World) (x : S35) (hbk : W.heap[B]? = some (.cells #[.slice A1 l1.length c1] 26 (0, 0))) (hc1 : l1.length ≤ c1) (hr1 : Kd.C (Kd.int .i64) W A1 l1.length l1) :
    Calls Try.prog 38 (#[.agg #[.int .i64 x.f0, .int .i64 x.f1, .int .i64 x.f2, .string x.f3]] ++ #[.pointer (some ⟨B, 0, none⟩)]) W fun e w' => e = .returned (.bool (!l1.contains x.f2)) ∧ Below W.heap.size W w' := by
  have hc : W.cell? ⟨B, 0, none⟩ = some (.slice A1 l1.length c1) := (blk_cell hbk 0).trans rfl
  have hBW : B < W.heap.size := blk_lt hbk
  have hne : B ≠ W.heap.size := by omega
  obtain ⟨k, hk⟩ := post_Only.has l1 x.f2 hr1.2.1
  obtain ⟨x0, x1, x2, x3⟩ := x
  show Calls Try.prog 38 #[.agg #[.int .i64 x0, .int .i64 x1, .int .i64 x2, .string x3], .pointer (some ⟨B, 0, none⟩)] W _
  have hcon : ∀ o, Calls Try.prog 39 #[.slice A1 l1.length c1, .int .i64 x2] (W.alloc o) fun e w' => e = .returned (.bool (l1.contains x2)) ∧ Drawn0 (W.alloc o) w' := fun o => slices_Contains_int_int.calls k A1 c1 l1 x2 _ _ (Kd.C_alloc hr1 _) hc1 hk
  clear hk hr1 hbk
  have HCN := Aside0.mk hcon
  clear hcon
  show Calls _ _ _ _ fun e w' => e = .returned (.bool (!l1.contains x2)) ∧ Below W.heap.size W w'
  generalize l1.contains x2 = q at HCN
  go_enter Try.func38, Try.ntmps38
  go_wp2_with (go_at_call 39; refine (HCN.out _).mono ?_; rintro e w' ⟨rfl, ⟨nd, rfl⟩⟩)
  all_goals (go_ret; exact ⟨by first | rfl | (simp; done) | (simp_all; done), by repeat (with_reducible first | exact Below.refl _ _ | apply below_alloc | apply pw_below_drewN | apply below_drew1)⟩)
set_option maxHeartbeats 8000000 in
set_option maxRecDepth 100000 in
theorem post_Only.calls (k : Nat) (a0_0 : Int) (A0_1 : Option Addr) (c0_1 : Nat) (l0_1 : List S35) (A1 : Option Addr) (c1 : Nat) (l1 : List Int) (r1 : Int) (r2 : List S35) (r3 : Int) (w : World) (hr0_1 : Kd.C k35 w A0_1 l0_1.length l0_1) (hc0_1 : l0_1.length ≤ c0_1) (hr1 : Kd.C (Kd.int .i64) w A1 l1.length l1) (hc1 : l1.length ≤ c1) (h : post_Only.f k a0_0 l0_1 l1 = some (r1, r2, r3)) :
    Calls Try.prog 17 #[.agg #[.int .i64 a0_0, .slice A0_1 l0_1.length c0_1], .slice A1 l1.length c1] w fun e w' => ∃ v1_ : Value, e = .returned (.tuple #[.agg #[.int .i64 r1, v1_], .int .i64 r3]) ∧ Kd.R k35 35 w' w.heap.size (fun _ => True) v1_ r2 ∧ Below w.heap.size w w' := by
  have hu24 := Try.underlying24
  have hu35 := Try.underlying35
  have eg : ∀ args w, (callFunc 38 args).run Try.prog w = .ok (.enter 38 args) w := enters_of Try.func38 (by kernel_rfl) rfl
  have HR := Aside0.mk hr0_1
  have HC := Aside0.mk hc0_1
  have HR1 := Aside0.mk hr1
  have HC1 := Aside0.mk hc1
  clear hr0_1 hc0_1 hr1 hc1
  have HB := Aside0.mk (Below.refl w.heap.size w)
  have hh := Option.bind_eq_some_iff.mp h
  clear h
  obtain ⟨b, hb0, h⟩ := hh
  have IS := Aside0.mk hb0
  clear hb0
  by_cases hlen : l0_1.length < 2199023255552
  case neg => rw [if_neg hlen] at h; exact absurd h (by simp)
  rw [if_pos hlen] at h
  have LM := Aside0.mk hlen
  clear hlen
  cases b with
  | false =>
    rw [if_neg (by decide)] at h
    simp only [Option.some.injEq, Prod.mk.injEq] at h
    obtain ⟨rfl, rfl, rfl⟩ := h
    go_enter Try.func17, Try.ntmps17
    go_wp2_with (first | ((with_reducible refine gate_dst (N := 2) rfl ?_); refine box_event ?hg (N := 2) ?hd (cs := #[.int .i64 a0_0, .slice A0_1 l0_1.length c0_1]) (t := 24) ?hr ?_; (case hd => rfl); (case hg => rfl); (case hr => first | (go_simp; done) | (go_simp; rfl)); intro gbB hg w3 hbox hb; have n0_ := Aside0.mk (below_step HB.out hb); have n1_ := Aside0.mk hbox; have n2_ := Aside0.mk ((by rw [hg]; exact (below_size HB.out)) : w.heap.size ≤ gbB); clear HB; have HB := n0_; have BKB := n1_; have GEB := n2_; clear n0_ n1_ n2_; clear hb hbox hg) | ((with_reducible refine gate_dst (N := 3) rfl ?_); refine box_event ?hg (N := 3) ?hd (cs := #[.slice A1 l1.length c1]) (t := 26) ?hr ?_; (case hd => rfl); (case hg => rfl); (case hr => first | (go_simp; done) | (go_simp; rfl)); intro gbD hg w4 hbox hb; have n0_ := Aside0.mk (below_step HB.out hb); have n1_ := Aside0.mk hbox; have n2_ := Aside0.mk ((by rw [hg]; exact (below_size HB.out)) : w.heap.size ≤ gbD); have m0_ := Aside0.mk (blk_below BKB.out hb); clear HB; clear BKB; have HB := n0_; have BKD := n1_; have GED := n2_; have BKB := m0_; clear n0_ n1_ n2_ m0_; clear hb hbox hg) | ((with_reducible refine gate_dst (N := 4) rfl ?_); refine box_event ?hg (N := 4) ?hd (cs := #[.int .i64 0, .slice none 0 0]) (t := 24) ?hr ?_; (case hd => rfl); (case hg => rfl); (case hr => first | (go_simp; done) | (go_simp; rfl)); intro gbZ hg w5 hbox hb; have NEZ := Aside0.mk (show gbZ ≠ gbB from by rw [hg]; exact Nat.ne_of_gt (blk_lt BKB.out)); have n0_ := Aside0.mk (below_step HB.out hb); have n1_ := Aside0.mk hbox; have n2_ := Aside0.mk ((by rw [hg]; exact (below_size HB.out)) : w.heap.size ≤ gbZ); have m0_ := Aside0.mk (blk_below BKB.out hb); have m1_ := Aside0.mk (blk_below BKD.out hb); clear HB; clear BKB; clear BKD; have HB := n0_; have BKZ := n1_; have GEZ := n2_; have BKB := m0_; have BKD := m1_; clear n0_ n1_ n2_ m0_ m1_; clear hb hbox hg; have hczB_0 : w5.cell? ⟨gbB, 0, none⟩ = some (.int .i64 a0_0) := (blk_cell BKB.out 0).trans rfl; have hczB_1 : w5.cell? ⟨gbB, 1, none⟩ = some (.slice A0_1 l0_1.length c0_1) := (blk_cell BKB.out 1).trans rfl; have hfzB_0 := blk_frozen BKB.out 0; have hfzB_1 := blk_frozen BKB.out 1; have hczZ_0 : w5.cell? ⟨gbZ, 0, none⟩ = some (.int .i64 0) := (blk_cell BKZ.out 0).trans rfl; have hczZ_1 : w5.cell? ⟨gbZ, 1, none⟩ = some (.slice none 0 0) := (blk_cell BKZ.out 1).trans rfl; have hfzZ_0 := blk_frozen BKZ.out 0; have hfzZ_1 := blk_frozen BKZ.out 1) | (go_at_call 25; refine (post_Is.calls k a0_0 A0_1 c0_1 l0_1 _ w5 (Kd.C_below HR.out HB.out) HC.out IS.out).mono ?_; rintro e w6 ⟨rfl, hb⟩; (try clear hczB_0 hczB_1 hfzB_0 hfzB_1 hczZ_0 hczZ_1 hfzZ_0 hfzZ_1); have n0_ := Aside0.mk (below_step HB.out hb); have m0_ := Aside0.mk (blk_below BKB.out hb); have m1_ := Aside0.mk (blk_below BKD.out hb); have m2_ := Aside0.mk (blk_below BKZ.out hb); clear HB BKB BKD BKZ; have HB := n0_; have BKB := m0_; have BKD := m1_; have BKZ := m2_; clear n0_ m0_ m1_ m2_ hb; have hczB_0 : w6.cell? ⟨gbB, 0, none⟩ = some (.int .i64 a0_0) := (blk_cell BKB.out 0).trans rfl; have hczB_1 : w6.cell? ⟨gbB, 1, none⟩ = some (.slice A0_1 l0_1.length c0_1) := (blk_cell BKB.out 1).trans rfl; have hfzB_0 := blk_frozen BKB.out 0; have hfzB_1 := blk_frozen BKB.out 1; have hczZ_0 : w6.cell? ⟨gbZ, 0, none⟩ = some (.int .i64 0) := (blk_cell BKZ.out 0).trans rfl; have hczZ_1 : w6.cell? ⟨gbZ, 1, none⟩ = some (.slice none 0 0) := (blk_cell BKZ.out 1).trans rfl; have hfzZ_0 := blk_frozen BKZ.out 0; have hfzZ_1 := blk_frozen BKZ.out 1))
    refine bodyPost_ret (results_ct rfl _ _ gbZ 24 #[.int .i64 0, .slice none 0 0] (0, 0) _ rfl (by refine blk_put (cs := #[.int .i64 0, .slice none 0 0]) ?_ 1 _ rfl; refine blk_put (cs := #[.int .i64 0, .slice none 0 0]) ?_ 0 _ rfl; exact BKZ.out) Try.underlying24 rfl (by kernel_rfl)) rfl ?_
    exact ⟨_, by first | rfl | (simp; done) | (simp [*]; done), Kd.R_nil _ _ _ _ _, by repeat (with_reducible first | exact HB.out | refine below_set ?_ GEZ.out)⟩
  | true =>
    rw [if_pos rfl] at h
    simp only [Option.some.injEq, Prod.mk.injEq] at h
    obtain ⟨rfl, rfl, rfl⟩ := h
    have FE : Aside0 (l0_1.filter (fun x => !(!l1.contains x.f2)) = l0_1.filter (fun x => l1.contains x.f2)) := ⟨by congr 1; funext x; rw [Bool.not_not]⟩
    obtain ⟨fl, hfl⟩ : ∃ fl, fl = l0_1.filter (fun x => !(!l1.contains x.f2)) := ⟨_, rfl⟩
    have FL := Aside0.mk hfl
    clear hfl
    go_enter Try.func17, Try.ntmps17
    go_wp2_with (first | ((with_reducible refine gate_dst (N := 2) rfl ?_); refine box_event ?hg (N := 2) ?hd (cs := #[.int .i64 a0_0, .slice A0_1 l0_1.length c0_1]) (t := 24) ?hr ?_; (case hd => rfl); (case hg => rfl); (case hr => first | (go_simp; done) | (go_simp; rfl)); intro gbB hg w3 hbox hb; have n0_ := Aside0.mk (below_step HB.out hb); have n1_ := Aside0.mk hbox; have n2_ := Aside0.mk ((by rw [hg]; exact (below_size HB.out)) : w.heap.size ≤ gbB); clear HB; have HB := n0_; have BKB := n1_; have GEB := n2_; clear n0_ n1_ n2_; clear hb hbox hg) | ((with_reducible refine gate_dst (N := 3) rfl ?_); refine box_event ?hg (N := 3) ?hd (cs := #[.slice A1 l1.length c1]) (t := 26) ?hr ?_; (case hd => rfl); (case hg => rfl); (case hr => first | (go_simp; done) | (go_simp; rfl)); intro gbD hg w4 hbox hb; have n0_ := Aside0.mk (below_step HB.out hb); have n1_ := Aside0.mk hbox; have n2_ := Aside0.mk ((by rw [hg]; exact (below_size HB.out)) : w.heap.size ≤ gbD); have m0_ := Aside0.mk (blk_below BKB.out hb); clear HB; clear BKB; have HB := n0_; have BKD := n1_; have GED := n2_; have BKB := m0_; clear n0_ n1_ n2_ m0_; clear hb hbox hg) | ((with_reducible refine gate_dst (N := 4) rfl ?_); refine box_event ?hg (N := 4) ?hd (cs := #[.int .i64 0, .slice none 0 0]) (t := 24) ?hr ?_; (case hd => rfl); (case hg => rfl); (case hr => first | (go_simp; done) | (go_simp; rfl)); intro gbZ hg w5 hbox hb; have NEZ := Aside0.mk (show gbZ ≠ gbB from by rw [hg]; exact Nat.ne_of_gt (blk_lt BKB.out)); have n0_ := Aside0.mk (below_step HB.out hb); have n1_ := Aside0.mk hbox; have n2_ := Aside0.mk ((by rw [hg]; exact (below_size HB.out)) : w.heap.size ≤ gbZ); have m0_ := Aside0.mk (blk_below BKB.out hb); have m1_ := Aside0.mk (blk_below BKD.out hb); clear HB; clear BKB; clear BKD; have HB := n0_; have BKZ := n1_; have GEZ := n2_; have BKB := m0_; have BKD := m1_; clear n0_ n1_ n2_ m0_ m1_; clear hb hbox hg; have hczB_0 : w5.cell? ⟨gbB, 0, none⟩ = some (.int .i64 a0_0) := (blk_cell BKB.out 0).trans rfl; have hczB_1 : w5.cell? ⟨gbB, 1, none⟩ = some (.slice A0_1 l0_1.length c0_1) := (blk_cell BKB.out 1).trans rfl; have hfzB_0 := blk_frozen BKB.out 0; have hfzB_1 := blk_frozen BKB.out 1; have hczZ_0 : w5.cell? ⟨gbZ, 0, none⟩ = some (.int .i64 0) := (blk_cell BKZ.out 0).trans rfl; have hczZ_1 : w5.cell? ⟨gbZ, 1, none⟩ = some (.slice none 0 0) := (blk_cell BKZ.out 1).trans rfl; have hfzZ_0 := blk_frozen BKZ.out 0; have hfzZ_1 := blk_frozen BKZ.out 1) | (go_at_call 25; refine (post_Is.calls k a0_0 A0_1 c0_1 l0_1 _ w5 (Kd.C_below HR.out HB.out) HC.out IS.out).mono ?_; rintro e w6 ⟨rfl, hb⟩; (try clear hczB_0 hczB_1 hfzB_0 hfzB_1 hczZ_0 hczZ_1 hfzZ_0 hfzZ_1); have n0_ := Aside0.mk (below_step HB.out hb); have m0_ := Aside0.mk (blk_below BKB.out hb); have m1_ := Aside0.mk (blk_below BKD.out hb); have m2_ := Aside0.mk (blk_below BKZ.out hb); clear HB BKB BKD BKZ; have HB := n0_; have BKB := m0_; have BKD := m1_; have BKZ := m2_; clear n0_ m0_ m1_ m2_ hb; have hczB_0 : w6.cell? ⟨gbB, 0, none⟩ = some (.int .i64 a0_0) := (blk_cell BKB.out 0).trans rfl; have hczB_1 : w6.cell? ⟨gbB, 1, none⟩ = some (.slice A0_1 l0_1.length c0_1) := (blk_cell BKB.out 1).trans rfl; have hfzB_0 := blk_frozen BKB.out 0; have hfzB_1 := blk_frozen BKB.out 1; have hczZ_0 : w6.cell? ⟨gbZ, 0, none⟩ = some (.int .i64 0) := (blk_cell BKZ.out 0).trans rfl; have hczZ_1 : w6.cell? ⟨gbZ, 1, none⟩ = some (.slice none 0 0) := (blk_cell BKZ.out 1).trans rfl; have hfzZ_0 := blk_frozen BKZ.out 0; have hfzZ_1 := blk_frozen BKZ.out 1) | (go_at_call 31; refine (api_Letter_31.calls A0_1 c0_1 l0_1 l0_1 w6 (Kd.C_below HR.out HB.out) HC.out (by unfold api_Letter_31.f; exact if_pos LM.out)).mono ?_; rintro e w7 ⟨v7, rfl, ho, hb⟩; have HO := Aside0.mk ho; have NS := Aside0.mk hb.size; have NW := Aside0.mk (below_size HB.out); have LTB := Aside0.mk (blk_lt BKB.out); have LTZ := Aside0.mk (blk_lt BKZ.out); have LTD := Aside0.mk (blk_lt BKD.out); clear ho; (try clear hczB_0 hczB_1 hfzB_0 hfzB_1 hczZ_0 hczZ_1 hfzZ_0 hfzZ_1); have n0_ := Aside0.mk (below_step HB.out hb); have m0_ := Aside0.mk (blk_below BKB.out hb); have m1_ := Aside0.mk (blk_below BKD.out hb); have m2_ := Aside0.mk (blk_below BKZ.out hb); clear HB BKB BKD BKZ; have HB := n0_; have BKB := m0_; have BKD := m1_; have BKZ := m2_; clear n0_ m0_ m1_ m2_ hb; have HCON := Aside0.mk (delfunc_Letter.calls v7 l0_1 (fun x => !l1.contains x.f2) 38 #[.pointer (some ⟨gbD, 0, none⟩)] eg HO.out (Below.refl w6.heap.size w7) NS.out (fun W1 x hk => post_Only.one A1 c1 l1 gbD W1 x ((hk.2 gbD (blk_lt BKD.out) (fun e_ => Nat.lt_irrefl _ (Nat.lt_of_lt_of_le LTD.out (Kd.R_base HO.out gbD e_.symm)))).trans BKD.out) HC1.out (Kd.C_kept_came (Kd.heap_int .i64) HR1.out HB.out (fun k hk_ => Nat.le_trans NW.out (Kd.R_base HO.out k hk_.symm)) W1 hk)))) | (go_at_call 37; refine HCON.out.mono ?_; rintro e w8 ⟨v8, rfl, ho, hb⟩; rw [← FL.out] at ho; obtain ⟨A8, c8, rfl⟩ := Kd.R_slice ho; have Y1 := Aside0.mk ho; have Y2 := Aside0.mk ((hb.block gbB LTB.out).trans BKB.out); have Y3 := Aside0.mk ((hb.block gbZ LTZ.out).trans BKZ.out); have Y4 := Aside0.mk (HB.out.trans (hb.mono NW.out)); have hyB_0 : w8.cell? ⟨gbB, 0, none⟩ = some (.int .i64 a0_0) := (blk_cell Y2.out 0).trans rfl; have hyB_1 : w8.cell? ⟨gbB, 1, none⟩ = some (.slice A0_1 l0_1.length c0_1) := (blk_cell Y2.out 1).trans rfl; have hyF_1 := blk_frozen Y2.out 1; have hyZ_0 : w8.cell? ⟨gbZ, 0, none⟩ = some (.int .i64 0) := (blk_cell Y3.out 0).trans rfl; have hyZ_1 : w8.cell? ⟨gbZ, 1, none⟩ = some (.slice none 0 0) := (blk_cell Y3.out 1).trans rfl; have hzF_0 := blk_frozen Y3.out 0; have hzF_1 := blk_frozen Y3.out 1; have nez := NEZ.out; have nez2 := NEZ.out.symm; clear ho hb HCON))
    have hNZ := LTZ.out
    have hNB := LTB.out
    have z1 := blk_far Y3.out (p := ⟨gbB, 1, none⟩) NEZ.out (.slice A8 fl.length c8)
    refine bodyPost_ret (results_ct rfl _ _ gbZ 24 #[.int .i64 a0_0, .slice A8 fl.length c8] (0, 0) _ rfl (by refine blk_put (cs := #[.int .i64 a0_0, .slice none 0 0]) ?_ 1 _ rfl; refine blk_put (cs := #[.int .i64 0, .slice none 0 0]) ?_ 0 _ rfl; exact z1) Try.underlying24 rfl (by kernel_rfl)) rfl ?_
    refine ⟨_, rfl, ?_, below_set (below_set (below_set Y4.out GEB.out) GEZ.out) GEZ.out⟩
    rw [← FE.out, ← FL.out]
    exact Kd.R_mono (Kd.R_lower (Kd.R_far (p := ⟨gbZ, 1, none⟩) (Kd.R_far (p := ⟨gbZ, 0, none⟩) (Kd.R_far (Kd.R_bound Y1.out) (p := ⟨gbB, 1, none⟩) (fun k_ hk => by show k_ ≠ gbB; have := hk.2.1; omega) _) (fun k_ hk => by show k_ ≠ gbZ; have := hk.2.1; omega) _) (fun k_ hk => by show k_ ≠ gbZ; have := hk.2.1; omega) _) NW.out) (fun _ _ => trivial)

end Go.Proofs.Ytofbkpdpgmjllaa.F
