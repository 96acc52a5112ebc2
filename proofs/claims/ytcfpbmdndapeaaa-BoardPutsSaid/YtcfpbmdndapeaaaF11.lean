-- Written by a program of this session (xprint.py), out of the translation and of contracts proved by hand.
import Derived.Test.YtcfpbmdndapeaaaF0
namespace Go.Proofs.Ytcfpbmdndapeaaa.F
open Go.RowKit Go.Proofs.YtcfpbmdndapeaaaV.PrintWords Go.Proofs.YtcfpbmdndapeaaaV.PrintLast Go.Proofs.YtcfpbmdndapeaaaV.PrintMore
attribute [local go_sem] max2_int min2_int max_two min_two max_three min_three max_four min_four   -- for this text's walks alone
set_option linter.unusedVariables false
set_option linter.unusedSimpArgs false

/-! ### board_sheet_now: function 53 -/
def board_sheet_now.f (l0_0 : List (S28)) (a0_1 : Int) (a0_2 : Int) (l0_3 : List (S28)) (l1 : List (S28)) : Option (Int × Int × (List (S28))) := some (a0_1, a0_2, l1)
set_option maxHeartbeats 8000000 in
set_option maxRecDepth 100000 in
theorem board_sheet_now.calls (A0_0 : Option Addr) (c0_0 : Nat) (l0_0 : List (S28)) (a0_1 : Int) (a0_2 : Int) (A0_3 : Option Addr) (c0_3 : Nat) (l0_3 : List (S28)) (P1_ : Nat → Prop) (u9000_ : Value) (l1 : List (S28)) (r1 : Int) (r2 : Int) (r3 : List (S28)) (w0 w : World) (hB : Below w0.heap.size w0 w) (hr0_0 : ∀ W_, Kept w W_ (fun k_ => P1_ k_) → Kd.C k28 W_ A0_0 l0_0.length l0_0) (hc0_0 : l0_0.length ≤ c0_0) (hr0_3 : ∀ W_, Kept w W_ (fun k_ => P1_ k_) → Kd.C k28 W_ A0_3 l0_3.length l0_3) (hc0_3 : l0_3.length ≤ c0_3) (ho1 : Kd.R k28 28 w w0.heap.size P1_ u9000_ l1) (h : board_sheet_now.f l0_0 a0_1 a0_2 l0_3 l1 = some (r1, r2, r3)) :
    Calls Try.prog 53 #[.agg #[.slice A0_0 l0_0.length c0_0, .int .i64 a0_1, .int .i64 a0_2, .slice A0_3 l0_3.length c0_3], u9000_] w fun e w' => ∃ v2_ : Value, e = .returned (.agg #[.int .i64 r1, .int .i64 r2, v2_]) ∧ Kd.R k28 28 w' w0.heap.size (fun k_ => (P1_ k_ ∨ w.heap.size ≤ k_)) v2_ r3 ∧ Below w0.heap.size w0 w' ∧ Kept w w' (fun k_ => P1_ k_) := by
  have hu72 := Try.underlying72
  have hu24 := Try.underlying24
  have HR0_0 := Aside0.mk hr0_0
  have HC0_0 := Aside0.mk hc0_0
  clear hr0_0 hc0_0
  have HR0_3 := Aside0.mk hr0_3
  have HC0_3 := Aside0.mk hc0_3
  clear hr0_3 hc0_3
  have HO1 := Aside0.mk (show Kd.R k28 28 w w0.heap.size (fun k_ => (P1_ k_ ∨ w.heap.size ≤ k_)) u9000_ l1 from Kd.R_mono ho1 (fun k_ hk => (.inl hk)))
  have HK := Aside0.mk (Kept.refl w (fun k_ => P1_ k_))
  have HW0 := Aside0.mk hB.size
  have HB := Aside0.mk hB
  clear hB
  have H : (some (a0_1, a0_2, l1)) = some (r1, r2, r3) := h
  clear h
  simp only [Option.some.injEq, Prod.mk.injEq] at H
  obtain ⟨rfl, rfl, rfl⟩ := H
  go_enter Try.func53, Try.ntmps53
  go_wp2_with (first | ((with_reducible refine gate_dst (N := 2) rfl ?_); refine box_event ?hg (N := 2) ?hd (cs := #[.slice A0_0 l0_0.length c0_0, .int .i64 a0_1, .int .i64 a0_2, .slice A0_3 l0_3.length c0_3]) (t := 72) ?hr ?_; (case hd => rfl); (case hg => rfl); (case hr => first | (go_simp; done) | (go_simp; rfl)); intro gb192 hg w3 hbox hb; have n0_ := Aside0.mk (Kd.R_below (HO1.out) hb); have n1_ := Aside0.mk (Kept.below (S := (fun k_ => P1_ k_)) (by repeat (first | (with_reducible first | exact HK.out | apply Kept.alloc | apply Kept.drewN | apply Kept.drew) | exact HK.out)) hb); have n2_ := Aside0.mk (below_step HB.out hb); have n3_ := Aside0.mk (hbox); have n4_ := Aside0.mk ((by rw [hg]; exact (by first | exact HK.out.1 | exact (show Kept w _ (fun k_ => P1_ k_) from by repeat (first | (with_reducible first | exact HK.out | apply Kept.alloc | apply Kept.drewN | apply Kept.drew) | exact HK.out)).1) : w.heap.size ≤ gb192)); have n5_ := Aside0.mk ((by rw [hg]; exact (below_size HB.out) : w0.heap.size ≤ gb192)); clear HO1; clear HK; clear HB; have HO1 := n0_; have HK := n1_; have HB := n2_; have BK192 := n3_; have GW192 := n4_; have GE192 := n5_; clear n0_ n1_ n2_ n3_ n4_ n5_; clear hb hbox hg) | ((with_reducible refine gate_dst (N := 4) rfl ?_); refine box_event ?hg (N := 4) ?hd (cs := #[.int .i64 0, .int .i64 0, .slice none 0 0]) (t := 24) ?hr ?_; (case hd => rfl); (case hg => rfl); (case hr => first | (go_simp; done) | (go_simp; rfl)); intro gb193 hg w4 hbox hb; have n0_ := Aside0.mk (Kd.R_below (HO1.out) hb); have n1_ := Aside0.mk (blk_below BK192.out hb); have n2_ := Aside0.mk (Kept.below (S := (fun k_ => P1_ k_)) (by repeat (first | (with_reducible first | exact HK.out | apply Kept.alloc | apply Kept.drewN | apply Kept.drew | refine Kept.setCell ?_ (.inr GW192.out) _) | exact HK.out)) hb); have n3_ := Aside0.mk (below_step (by repeat (with_reducible first | exact HB.out | apply pw_below_drewN | apply below_drew1 | refine below_set ?_ GE192.out)) hb); have n4_ := Aside0.mk (hbox); have n5_ := Aside0.mk ((by rw [hg]; exact (by first | exact HK.out.1 | exact (show Kept w _ (fun k_ => P1_ k_) from by repeat (first | (with_reducible first | exact HK.out | apply Kept.alloc | apply Kept.drewN | apply Kept.drew | refine Kept.setCell ?_ (.inr GW192.out) _) | exact HK.out)).1) : w.heap.size ≤ gb193)); have n6_ := Aside0.mk ((by rw [hg]; exact (below_size (by repeat (with_reducible first | exact HB.out | apply pw_below_drewN | apply below_drew1 | refine below_set ?_ GE192.out))) : w0.heap.size ≤ gb193)); have n7_ := Aside0.mk ((by rw [hg]; exact Nat.ne_of_lt (blk_lt BK192.out) : gb192 ≠ gb193)); have n8_ := Aside0.mk ((by rw [hg]; exact Nat.ne_of_gt (blk_lt BK192.out) : gb193 ≠ gb192)); clear HO1; clear BK192; clear HK; clear HB; have HO1 := n0_; have BK192 := n1_; have HK := n2_; have HB := n3_; have BK193 := n4_; have GW193 := n5_; have GE193 := n6_; have NB192_193 := n7_; have NB193_192 := n8_; clear n0_ n1_ n2_ n3_ n4_ n5_ n6_ n7_ n8_; clear hb hbox hg; have hnb5 := NB192_193.out; have hnc5 := NB193_192.out; have hcz6_0 : w4.cell? ⟨gb192, 0, none⟩ = some (.slice A0_0 l0_0.length c0_0) := (blk_cell BK192.out 0).trans rfl; have hcz6_1 : w4.cell? ⟨gb192, 1, none⟩ = some (.int .i64 a0_1) := (blk_cell BK192.out 1).trans rfl; have hcz6_2 : w4.cell? ⟨gb192, 2, none⟩ = some (.int .i64 a0_2) := (blk_cell BK192.out 2).trans rfl; have hcz6_3 : w4.cell? ⟨gb192, 3, none⟩ = some (.slice A0_3 l0_3.length c0_3) := (blk_cell BK192.out 3).trans rfl; have hfz6_0 := blk_frozen BK192.out 0; have hfz6_1 := blk_frozen BK192.out 1; have hfz6_2 := blk_frozen BK192.out 2; have hfz6_3 := blk_frozen BK192.out 3; obtain ⟨Ao7, co7, eo7⟩ := Kd.R_slice HO1.out; subst eo7; have hcz8_0 : w4.cell? ⟨gb193, 0, none⟩ = some (.int .i64 0) := (blk_cell BK193.out 0).trans rfl; have hcz8_1 : w4.cell? ⟨gb193, 1, none⟩ = some (.int .i64 0) := (blk_cell BK193.out 1).trans rfl; have hcz8_2 : w4.cell? ⟨gb193, 2, none⟩ = some (.slice none 0 0) := (blk_cell BK193.out 2).trans rfl; have hfz8_0 := blk_frozen BK193.out 0; have hfz8_1 := blk_frozen BK193.out 1; have hfz8_2 := blk_frozen BK193.out 2))
  refine bodyPost_ret (results_cell_row rfl _ _ gb193 24 #[.int .i64 a0_1, .int .i64 a0_2, .slice Ao7 l1.length co7] (0, 0) _ rfl (by refine blk_put (cs := #[.int .i64 a0_1, .int .i64 a0_2, .slice none 0 0]) ?_ 2 _ rfl; refine blk_put (cs := #[.int .i64 a0_1, .int .i64 0, .slice none 0 0]) ?_ 1 _ rfl; refine blk_put (cs := #[.int .i64 0, .int .i64 0, .slice none 0 0]) ?_ 0 _ rfl; exact BK193.out) Try.underlying24 rfl (by kernel_rfl)) rfl ?_
  exact ⟨_, by first | rfl | (simp [errW_none, errW_some] <;> rfl) | (simp [*, errW_none, errW_some] <;> rfl), by (with_reducible repeat (first | apply Kd.R_alloc | apply Kd.R_drewN | apply Kd.R_drew)); exact Kd.R_mono (Kd.R_far (p := ⟨gb193, 2, none⟩) (Kd.R_far (p := ⟨gb193, 1, none⟩) (Kd.R_far (p := ⟨gb193, 0, none⟩) (Kd.R_types HO1.out BK193.out (by decide)) (fun _ hk => hk.2) (.int .i64 a0_1)) (fun _ hk => hk.2) (.int .i64 a0_2)) (fun _ hk => hk.2) (.slice Ao7 l1.length co7)) (fun _ hk => hk.1), by repeat (with_reducible first | exact HB.out | apply pw_below_drewN | apply below_drew1 | refine below_set ?_ GE192.out | refine below_set ?_ GE193.out), by repeat (first | (with_reducible first | exact HK.out | apply Kept.alloc | apply Kept.drewN | apply Kept.drew | refine Kept.setCell ?_ (.inr GW192.out) _ | refine Kept.setCell ?_ (.inr GW193.out) _) | exact HK.out)⟩

/-! ### api_Alarm_100: function 100 -/
def api_Alarm_100.f (l0 : List S28) (a1 : Int) : Option (List S28) := if 0 ≤ a1 then if a1 < 2199023255552 then some [] else none else none
set_option maxHeartbeats 8000000 in
set_option maxRecDepth 100000 in
theorem api_Alarm_100.calls (a1 : Int) (r : List S28) (w : World) (h : api_Alarm_100.f [] a1 = some r) :
    Calls Try.prog 100 #[.slice none 0 0, .int .i64 a1] w fun e w' => ∃ v0_ : Value, e = .returned (v0_) ∧ Kd.R k28 28 w' w.heap.size (fun _ => True) v0_ r ∧ Below w.heap.size w w' := by
  unfold api_Alarm_100.f at h
  by_cases c1 : 0 ≤ a1
  · rw [if_pos c1] at h
    by_cases c2 : a1 < 2199023255552
    · rw [if_pos c2] at h
      obtain rfl := Option.some.inj h
      have b1 : decide (a1 < 0) = false := decide_eq_false (by omega)
      by_cases c3 : 0 < a1
      · have b3 : decide (0 < a1) = true := decide_eq_true c3
        go_enter Try.func100, Try.ntmps100
        go_wp2_with ((with_reducible refine gate_builtin (b := .append) (xs := #[.tmp 20, .tmp 21]) rfl ?_); at_builtin; refine Kd.R_append_zeros k28 (w0 := w) w.heap.size rfl (.tmp 20) (.tmp 21) 70 3 28 (.agg #[.int .i64 0, .int .i64 0, .int .i64 0, .int .i64 0, .int .i64 0, .int .i64 0]) 48 rfl Try.underlying70 Try.underlying3 info28 rfl (by decide) (by omega) (.slice none 0 0) ([] : List S28) z28 a1 (fun _ => True) rfl rfl (k28_mkM _ _ _ z28) (fun _ _ => trivial) ?aO c1 ?aB ?aS ?aL ?_; (case aB => exact (by repeat (first | exact Below.refl _ _ | apply pw_below_drewN | apply below_drew1))); (case aO => exact Kd.R_nil _ _ _ _ _); (case aS => exact Nat.le_refl _); (case aL => simp; omega); intro v157 w3 ho hb hg hat; obtain ⟨A, c, rfl⟩ := Kd.R_slice ho; have HB := Aside0.mk (hb); have HO := Aside0.mk (Kd.R_take (m := 0) ho (Nat.zero_le _)); clear ho hb hg hat)
        go_ret
        exact ⟨_, rfl, HO.out, HB.out⟩
      · obtain rfl : a1 = 0 := by omega
        clear h c1 c2 c3 b1
        go_enter Try.func100, Try.ntmps100
        go_wp2
        go_ret
        exact ⟨_, rfl, Kd.R_nil _ _ _ _ _, Below.refl _ _⟩
    · rw [if_neg c2] at h
      exact absurd h (by simp)
  · rw [if_neg c1] at h
    exact absurd h (by simp)

/-! ### api_Alarm_85: function 85 -/
mutual
def api_Alarm_85.l0 : Nat → List (List (S28)) → Int → List (List (S28)) → Int → Int → Option ((List (S28)))
  | 0, _, _, _, _, _ => none
  | k + 1, x0, x3, x9, x10, x11 => if x11 < x10 then (if 0 ≤ x11 then (if x11 < (x9.length : Int) then (if (wrap64 (x3 + ((rd_L4 x9 x11).length : Int))) < 0 then (none) else (api_Alarm_85.l0 k x0 (wrap64 (x3 + ((rd_L4 x9 x11).length : Int))) x9 x10 (wrap64 (x11 + 1)))) else (none)) else (none)) else ((api_Alarm_100.f ([] : List (S28)) x3).bind fun t195 => (api_Alarm_85.l1 k t195 x0 (x0.length : Int) 0))
def api_Alarm_85.l1 : Nat → List (S28) → List (List (S28)) → Int → Int → Option ((List (S28)))
  | 0, _, _, _, _ => none
  | k + 1, x6, x25, x26, x27 => if x27 < x26 then (if 0 ≤ x27 then (if x27 < (x25.length : Int) then (if x6.length + (rd_L4 x25 x27).length < 2932031007402 then (api_Alarm_85.l1 k (x6 ++ (rd_L4 x25 x27)) x25 x26 (wrap64 (x27 + 1))) else (none)) else (none)) else (none)) else (some x6)
end
def api_Alarm_85.f (k : Nat) (l0 : List (List (S28))) : Option ((List (S28))) := api_Alarm_85.l0 k l0 0 l0 (l0.length : Int) 0
theorem api_Alarm_85.mono_l : ∀ k, (∀ y0 y1 y2 y3 y4, LeO (api_Alarm_85.l0 k y0 y1 y2 y3 y4) (api_Alarm_85.l0 (k + 1) y0 y1 y2 y3 y4)) ∧ (∀ y0 y1 y2 y3, LeO (api_Alarm_85.l1 k y0 y1 y2 y3) (api_Alarm_85.l1 (k + 1) y0 y1 y2 y3))
  | 0 => ⟨fun _ _ _ _ _ r h => by simp [api_Alarm_85.l0] at h, fun _ _ _ _ r h => by simp [api_Alarm_85.l1] at h⟩
  | k + 1 => by
    obtain ⟨ih0, ih1⟩ := api_Alarm_85.mono_l k
    refine ⟨?_, ?_⟩
    · intro y0 y1 y2 y3 y4
      unfold api_Alarm_85.l0
      repeat' first
      | (with_reducible exact ih0 _ _ _ _ _)
      | (with_reducible exact ih1 _ _ _ _)
      | (with_reducible exact LeO.refl _)
      | (with_reducible exact LeO.none _)
      | (with_reducible refine LeO.ite ?_ ?_)
      | (with_reducible refine LeO.bind ?_ (fun _ => ?_))
      | exact ih0 _ _ _ _ _
      | exact ih1 _ _ _ _
      | exact LeO.none _
      | refine LeO.ite ?_ ?_
      | refine LeO.bind ?_ (fun _ => ?_)
    · intro y0 y1 y2 y3
      unfold api_Alarm_85.l1
      repeat' first
      | (with_reducible exact ih0 _ _ _ _ _)
      | (with_reducible exact ih1 _ _ _ _)
      | (with_reducible exact LeO.refl _)
      | (with_reducible exact LeO.none _)
      | (with_reducible refine LeO.ite ?_ ?_)
      | (with_reducible refine LeO.bind ?_ (fun _ => ?_))
      | exact ih0 _ _ _ _ _
      | exact ih1 _ _ _ _
      | exact LeO.none _
      | refine LeO.ite ?_ ?_
      | refine LeO.bind ?_ (fun _ => ?_)
theorem api_Alarm_85.mono : ∀ a0 k, LeO (api_Alarm_85.f k a0) (api_Alarm_85.f (k + 1) a0) := by
  intro a0 k
  obtain ⟨ih0, ih1⟩ := api_Alarm_85.mono_l k
  unfold api_Alarm_85.f
  repeat' first
      | (with_reducible exact ih0 _ _ _ _ _)
      | (with_reducible exact ih1 _ _ _ _)
      | (with_reducible exact LeO.refl _)
      | (with_reducible exact LeO.none _)
      | (with_reducible refine LeO.ite ?_ ?_)
      | (with_reducible refine LeO.bind ?_ (fun _ => ?_))
      | exact ih0 _ _ _ _ _
      | exact ih1 _ _ _ _
      | exact LeO.none _
      | refine LeO.ite ?_ ?_
      | refine LeO.bind ?_ (fun _ => ?_)
set_option maxHeartbeats 8000000 in
set_option maxRecDepth 100000 in
theorem api_Alarm_85.calls (k : Nat) (A0 : Option Addr) (c0 : Nat) (l0 : List (List (S28))) (r : List (S28)) (w : World) (hr0 : Kd.C (Kd.slice 28 k28) w A0 l0.length l0) (hc0 : l0.length ≤ c0) (h : api_Alarm_85.f k l0 = some r) :
    Calls Try.prog 85 #[.slice A0 l0.length c0] w fun e w' => ∃ v0_ : Value, e = .returned (v0_) ∧ Kd.R k28 28 w' w.heap.size (fun _ => True) v0_ r ∧ Below w.heap.size w w' := by
  have HR0 := Aside0.mk hr0
  have HC0 := Aside0.mk hc0
  clear hr0 hc0
  have HB := Aside0.mk (Below.refl w.heap.size w)
  have H : (api_Alarm_85.l0 k l0 0 l0 (l0.length : Int) 0) = some r := h
  clear h
  have H' := Aside0.mk H
  clear H
  go_enter Try.func85, Try.ntmps85
  go_wp2
  go_loopg [3, 11] k (fun kq v3 v11 w' => ∃ (x3_1 : Int) (x11_1 : Int), v3 = .int .i64 x3_1 ∧ v11 = .int .i64 x11_1 ∧ Aside0 (api_Alarm_85.l0 kq l0 x3_1 l0 (l0.length : Int) x11_1 = some r) ∧ Aside0 (kq ≤ k) ∧ Aside0 (Below w.heap.size w w'))
  case atStart => exact ⟨(0), (0), (by first | rfl | (simp; done) | (simp [*]; done)), (by first | rfl | (simp; done) | (simp [*]; done)), H', ⟨Nat.le_refl _⟩, ⟨by repeat (with_reducible first | exact HB.out | apply pw_below_drewN | apply below_drew1)⟩⟩
  case round =>
    clear H'
    obtain ⟨x3_1, x11_1, rfl, rfl, HA, HK1, HB⟩ := hrel
    cases gk with
    | zero => exact absurd HA.out (by simp [api_Alarm_85.l0])
    | succ k1 =>
      have H := HA.out
      clear HA
      simp only [api_Alarm_85.l0] at H
      by_cases c2 : x11_1 < (l0.length : Int)
      · rw [if_pos c2] at H
        have c2b0 : decide (x11_1 < (l0.length : Int)) = true := decide_eq_true c2
        clear c2
        by_cases c3 : 0 ≤ x11_1
        · rw [if_pos c3] at H
          have c3b0 : decide (0 ≤ x11_1) = true := decide_eq_true c3
          clear c3
          by_cases c4 : x11_1 < (l0.length : Int)
          · rw [if_pos c4] at H
            have c4b0 : decide (x11_1 < (l0.length : Int)) = true := decide_eq_true c4
            clear c4
            by_cases c5 : (wrap64 (x3_1 + ((rd_L4 l0 x11_1).length : Int))) < 0
            · rw [if_pos c5] at H
              exact absurd H (by simp)
            · rw [if_neg c5] at H
              have c5b0 : decide ((wrap64 (x3_1 + ((rd_L4 l0 x11_1).length : Int))) < 0) = false := decide_eq_false c5
              clear c5
              have H' := Aside0.mk H
              clear H
              have p194 : 0 ≤ (x11_1 : Int) := of_decide_eq_true (by first | (with_reducible assumption) | assumption)
              have q194 : x11_1 < (l0.length : Int) := of_decide_eq_true (by first | (with_reducible assumption) | assumption)
              obtain ⟨ad194, A194_0, c194_0, e194, hx194_0, hl194_0, hi194_0⟩ := at_L4 HR0.out x11_1 p194 q194
              cases e194
              replace hx194_0 := (HB.out.cell (World.block_lt_of_cell? w _ hx194_0)).trans hx194_0
              have HR194_0 := Aside0.mk hi194_0
              have HC194_0 := Aside0.mk hl194_0
              clear hi194_0 hl194_0
              replace p194 := eq_true p194
              replace q194 := eq_true q194
              go_wp2
              go_roundg k1
              case measure => have := HK1.out; omega
              case rel => exact ⟨(wrap64 (x3_1 + ((rd_L4 l0 x11_1).length : Int))), (wrap64 (x11_1 + 1)), (by first | rfl | (simp; done) | (simp [*]; done)), (by first | rfl | (simp; done) | (simp [*]; done)), H', ⟨by have := HK1.out; omega⟩, ⟨by repeat (with_reducible first | exact HB.out | apply pw_below_drewN | apply below_drew1)⟩⟩
          · rw [if_neg c4] at H
            exact absurd H (by simp)
        · rw [if_neg c3] at H
          exact absurd H (by simp)
      · rw [if_neg c2] at H
        have c2b0 : decide (x11_1 < (l0.length : Int)) = false := decide_eq_false c2
        clear c2
        replace H := Option.bind_eq_some_iff.mp H
        obtain ⟨t195, A60, H⟩ := H
        replace H : (api_Alarm_85.l1 k1 t195 l0 (l0.length : Int) 0) = some r := H
        have A6 := Aside0.mk A60
        clear A60
        have H' := Aside0.mk H
        clear H
        go_wp2_with (first | ((with_reducible refine gate_callee (f := 100) rfl ?_); refine goesL_ (some 24) rfl rfl Try.func100 (by kernel_rfl) rfl #[.slice none 0 0, .int .i64 x3_1] rfl (by (try simp only [List.map_toArray, List.map_cons, List.map_nil]); first | done | rfl | (simp only [List.length_drop, List.length_take]; rfl)) ?_; (refine (api_Alarm_100.calls x3_1 t195 _ A6.out).mono ?_); rintro e w7 ⟨v196, rfl, ho0, hb⟩; refine ⟨_, rfl, ?_⟩; have n0_ := Aside0.mk (Kd.R_lower ho0 (below_size HB.out)); have n1_ := Aside0.mk (below_step HB.out hb); clear HB; have HO197 := n0_; have HB := n1_; clear n0_ n1_; (try clear hb); (try clear hb2); (try clear hk); (try clear hi); (try clear ho0)))
        go_loopg [6, 27] k1 (fun kq v6 v27 w' => ∃ (x6_2 : List (S28)) (x27_2 : Int), v27 = .int .i64 x27_2 ∧ Aside0 (api_Alarm_85.l1 kq x6_2 l0 (l0.length : Int) x27_2 = some r) ∧ Aside0 (kq ≤ k1) ∧ Aside0 (Kd.R k28 28 w' w.heap.size (fun _ => True) v6 x6_2) ∧ Aside0 (Below w.heap.size w w'))
        case atStart => exact ⟨(t195), (0), (by first | rfl | (simp; done) | (simp [*]; done)), H', ⟨Nat.le_refl _⟩, ⟨by (with_reducible repeat (first | apply Kd.R_alloc | apply Kd.R_drewN | apply Kd.R_drew)); exact HO197.out⟩, ⟨by repeat (with_reducible first | exact HB.out | apply pw_below_drewN | apply below_drew1)⟩⟩
        case round =>
          clear H'
          try clear c1
          try clear p1
          try clear q1
          try clear hx1
          try clear c2
          try clear c2b0
          try clear p2
          try clear c3
          try clear c3b0
          try clear c4
          try clear c4b0
          try clear c5
          try clear c5b0
          try clear p6
          try clear hx194_0
          try clear p194
          try clear q194
          obtain ⟨x6_2, x27_2, rfl, HA, HK2, HO_6, HB⟩ := hrel
          cases gk with
          | zero => exact absurd HA.out (by simp [api_Alarm_85.l1])
          | succ k2 =>
            have H := HA.out
            clear HA
            simp only [api_Alarm_85.l1] at H
            by_cases c8 : x27_2 < (l0.length : Int)
            · rw [if_pos c8] at H
              have c8b0 : decide (x27_2 < (l0.length : Int)) = true := decide_eq_true c8
              clear c8
              by_cases c9 : 0 ≤ x27_2
              · rw [if_pos c9] at H
                have c9b0 : decide (0 ≤ x27_2) = true := decide_eq_true c9
                clear c9
                by_cases c10 : x27_2 < (l0.length : Int)
                · rw [if_pos c10] at H
                  have c10b0 : decide (x27_2 < (l0.length : Int)) = true := decide_eq_true c10
                  clear c10
                  by_cases c11 : x6_2.length + (rd_L4 l0 x27_2).length < 2932031007402
                  · rw [if_pos c11] at H
                    have LMc11 := Aside0.mk c11
                    clear c11
                    obtain ⟨y199, hy199⟩ : ∃ y_ : List (S28), y_ = (x6_2 ++ (rd_L4 l0 x27_2)) := ⟨_, rfl⟩
                    replace H : (api_Alarm_85.l1 k2 y199 l0 (l0.length : Int) (wrap64 (x27_2 + 1))) = some r := by first | (rw [hy199]; with_reducible exact H) | (have H2_ := (Option.bind_some _ _).symm.trans H; rw [hy199]; with_reducible exact H2_) | (have H2_ := (Option.bind_some _ _).symm.trans H; with_reducible exact H2_) | with_reducible exact H | (rw [hy199]; exact H) | exact H
                    have Ny199 := Aside0.mk hy199
                    clear hy199
                    have H' := Aside0.mk H
                    clear H
                    have p198 : 0 ≤ (x27_2 : Int) := of_decide_eq_true (by first | (with_reducible assumption) | assumption)
                    have q198 : x27_2 < (l0.length : Int) := of_decide_eq_true (by first | (with_reducible assumption) | assumption)
                    obtain ⟨ad198, A198_0, c198_0, e198, hx198_0, hl198_0, hi198_0⟩ := at_L4 HR0.out x27_2 p198 q198
                    cases e198
                    replace hx198_0 := (HB.out.cell (World.block_lt_of_cell? w _ hx198_0)).trans hx198_0
                    have HR198_0 := Aside0.mk hi198_0
                    have HC198_0 := Aside0.mk hl198_0
                    clear hi198_0 hl198_0
                    replace p198 := eq_true p198
                    replace q198 := eq_true q198
                    go_wp2_with (first | ((with_reducible refine gate_builtin (b := .append) (xs := #[.tmp 31, .tmp 32]) rfl ?_); at_builtin; refine Kd.R_append_rows k28 (w0 := w) w.heap.size rfl (.tmp 31) (.tmp 32) 70 28 (.agg #[(.int .i64 0), (.int .i64 0), (.int .i64 0), (.int .i64 0), (.int .i64 0), (.int .i64 0)]) 48 rfl Try.underlying70 info28 rfl (by decide) (by omega) u6 x6_2 (rd_L4 l0 x27_2) _ _ _ (fun _ => True) (fun _ => False) rfl rfl ?aO ?aR (fun _ _ h => h) (fun _ h => h.elim) ?aF ?aB ?aS ?aL ?_; (case aR => repeat (first | exact (Kd.C_below HR198_0.out HB.out) | (with_reducible refine Kd.C_alloc ?_ _) | (with_reducible refine Kd.C_drewN ?_ _) | (with_reducible refine Kd.C_drew ?_))); (case aB => exact HB.out); (case aF => exact (fun _ _ => trivial)); (case aO => exact (HO_6.out)); (case aS => exact (below_size HB.out)); (case aL => have := LMc11.out; omega); intro v200 w12 ho hb hg hat; rw [← Ny199.out] at ho; have n0_ := Aside0.mk (hb); have n1_ := Aside0.mk (ho); clear HB; clear HO_6; have HB := n0_; have HO201 := n1_; clear n0_ n1_; clear ho hb hg hat))
                    go_roundg k2
                    case measure => have := HK1.out; have := HK2.out; omega
                    case rel => exact ⟨(y199), (wrap64 (x27_2 + 1)), (by first | rfl | (simp; done) | (simp [*]; done)), H', ⟨by have := HK1.out; have := HK2.out; omega⟩, ⟨by (with_reducible repeat (first | apply Kd.R_alloc | apply Kd.R_drewN | apply Kd.R_drew)); exact HO201.out⟩, ⟨by repeat (with_reducible first | exact HB.out | apply pw_below_drewN | apply below_drew1)⟩⟩
                  · rw [if_neg c11] at H
                    exact absurd H (by simp)
                · rw [if_neg c10] at H
                  exact absurd H (by simp)
              · rw [if_neg c9] at H
                exact absurd H (by simp)
            · rw [if_neg c8] at H
              have c8b0 : decide (x27_2 < (l0.length : Int)) = false := decide_eq_false c8
              clear c8
              obtain rfl := Option.some.inj H
              go_wp2
              go_ret
              exact ⟨_, by first | rfl | (simp [errW_none, errW_some] <;> rfl) | (simp [*, errW_none, errW_some] <;> rfl), by (with_reducible repeat (first | apply Kd.R_alloc | apply Kd.R_drewN | apply Kd.R_drew)); exact HO_6.out, by repeat (with_reducible first | exact HB.out | apply pw_below_drewN | apply below_drew1)⟩

end Go.Proofs.Ytcfpbmdndapeaaa.F
