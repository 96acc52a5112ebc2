-- Written by a program of this session (xprint.py), out of the translation and of contracts proved by hand.
import Derived.Test.YtcfpbmdndapeaaaF0
namespace Go.Proofs.Ytcfpbmdndapeaaa.F
open Go.RowKit Go.Proofs.YtcfpbmdndapeaaaV.PrintWords Go.Proofs.YtcfpbmdndapeaaaV.PrintLast Go.Proofs.YtcfpbmdndapeaaaV.PrintMore
attribute [local go_sem] max2_int min2_int max_two min_two max_three min_three max_four min_four   -- for this text's walks alone
set_option linter.unusedVariables false
set_option linter.unusedSimpArgs false

/-! ### board_sheet_now: function 53 -/
def board_sheet_now.f (l0_0 : List (S28)) (a0_1 : Int) (a0_2 : Int) (l0_3 : List (S28)) (l1 : List (S28)) : Option (Int × Int × (List (S28))) := some (a0_1, a0_2, l1)
set_option maxHeartbeats 8000000 in
set_option maxRecDepth 100000 in
theorem board_sheet_now.calls (A0_0 : Option Addr) (c0_0 : Nat) (l0_0 : List (S28)) (a0_1 : Int) (a0_2 : Int) (A0_3 : Option Addr) (c0_3 : Nat) (l0_3 : List (S28)) (P1_ : Nat → Prop) (u9000_ : Value) (l1 : List (S28)) (r1 : Int) (r2 : Int) (r3 : List (S28)) (w0 w : World) (hB : Below w0.heap.size w0 w) (hr0_0 : ∀ W_, Kept w W_ (fun k_ => P1_ k_) → Kd.C k28 W_ A0_0 l0_0.length l0_0) (hc0_0 : l0_0.length ≤ c0_0) (hr0_3 : ∀ W_, Kept w W_ (fun k_ => P1_ k_) → Kd.C k28 W_ A0_3 l0_3.length l0_3) (hc0_3 : l0_3.length ≤ c0_3) (ho1 : Kd.R k28 28 w w0.heap.size P1_ u9000_ l1) (h : board_sheet_now.f l0_0 a0_1 a0_2 l0_3 l1 = some (r1, r2, r3)) :
  Calls Try.prog 53 #[.agg #[.slice A0_0 l0_0.length c0_0, .int .i64 a0_1, .int .i64 a0_2, .slice A0_3 l0_3.length c0_3], u9000_] w fun e w' => ∃ v2_ : Value, e = .returned (.agg #[.int .i64 r1, .int .i64 r2, v2_]) ∧ Kd.R k28 28 w' w0.heap.size (fun k_ => (P1_ k_ ∨ w.heap.size ≤ k_)) v2_ r3 ∧ Below w0.heap.size w0 w' ∧ Kept w w' (fun k_ => P1_ k_) := by
 have hu72 := Try.underlying72
 have hu24 := Try.underlying24
 have HR0_0 := Aside0.mk hr0_0
 have HC0_0 := Aside0.mk hc0_0
 clear hr0_0 hc0_0
 have HR0_3 := Aside0.mk hr0_3
 have HC0_3 := Aside0.mk hc0_3
 clear hr0_3 hc0_3
 have HO1 := Aside0.mk (show Kd.R k28 28 w w0.heap.size (fun k_ => (P1_ k_ ∨ w.heap.size ≤ k_)) u9000_ l1 from Kd.R_mono ho1 (fun k_ hk => (.inl hk)))
 have HK := Aside0.mk (Kept.refl w (fun k_ => P1_ k_))
 have HW0 := Aside0.mk hB.size
 have HB := Aside0.mk hB
 clear hB
 have H : (some (a0_1, a0_2, l1)) = some (r1, r2, r3) := h
 clear h
 simp only [Option.some.injEq, Prod.mk.injEq] at H
 obtain ⟨rfl, rfl, rfl⟩ := H
 go_enter Try.func53, Try.ntmps53
 go_wp2_with (first | ((with_reducible refine gate_dst (N := 2) rfl ?_); refine box_event ?hg (N := 2) ?hd (cs := #[.slice A0_0 l0_0.length c0_0, .int .i64 a0_1, .int .i64 a0_2, .slice A0_3 l0_3.length c0_3]) (t := 72) ?hr ?_; (case hd => rfl); (case hg => rfl); (case hr => first | (go_simp; done) | (go_simp; rfl)); intro gb177 hg w3 hbox hb; replace HO1 := rb_ HO1 hb; have BK177 := Aside0.mk (hbox); have GW177 := Aside0.mk ((by rw [hg]; exact (by first | exact HK.out.1 | exact (show Kept w _ (fun k_ => P1_ k_) from by repeat (first | (with_reducible first | exact HK.out | apply Kept.alloc | apply Kept.drewN | apply Kept.drew) | exact HK.out)).1) : w.heap.size ≤ gb177)); replace HK := Aside0.mk (Kept.below (S := (fun k_ => P1_ k_)) (by repeat (first | (with_reducible first | exact HK.out | apply Kept.alloc | apply Kept.drewN | apply Kept.drew) | exact HK.out)) hb); have GE177 := Aside0.mk ((by rw [hg]; exact (below_size HB.out) : w0.heap.size ≤ gb177)); replace HB := Aside0.mk (below_step HB.out hb); clear hb hbox hg) | ((with_reducible refine gate_dst (N := 4) rfl ?_); refine box_event ?hg (N := 4) ?hd (cs := #[.int .i64 0, .int .i64 0, .slice none 0 0]) (t := 24) ?hr ?_; (case hd => rfl); (case hg => rfl); (case hr => first | (go_simp; done) | (go_simp; rfl)); intro gb178 hg w4 hbox hb; replace HO1 := rb_ HO1 hb; have BK178 := Aside0.mk (hbox); have GW178 := Aside0.mk ((by rw [hg]; exact (by first | exact HK.out.1 | exact (show Kept w _ (fun k_ => P1_ k_) from by repeat (first | (with_reducible first | exact HK.out | apply Kept.alloc | apply Kept.drewN | apply Kept.drew | refine Kept.setCell ?_ (.inr GW177.out) _) | exact HK.out)).1) : w.heap.size ≤ gb178)); replace HK := Aside0.mk (Kept.below (S := (fun k_ => P1_ k_)) (by repeat (first | (with_reducible first | exact HK.out | apply Kept.alloc | apply Kept.drewN | apply Kept.drew | refine Kept.setCell ?_ (.inr GW177.out) _) | exact HK.out)) hb); have GE178 := Aside0.mk ((by rw [hg]; exact (below_size (by repeat (with_reducible first | exact HB.out | apply pw_below_drewN | apply below_drew1 | refine below_set ?_ GE177.out))) : w0.heap.size ≤ gb178)); replace HB := Aside0.mk (below_step (by repeat (with_reducible first | exact HB.out | apply pw_below_drewN | apply below_drew1 | refine below_set ?_ GE177.out)) hb); have NB177_178 := Aside0.mk ((by rw [hg]; exact Nat.ne_of_lt (blk_lt BK177.out) : gb177 ≠ gb178)); have NB178_177 := Aside0.mk ((by rw [hg]; exact Nat.ne_of_gt (blk_lt BK177.out) : gb178 ≠ gb177)); replace BK177 := bl_ BK177 hb; clear hb hbox hg; have hnb5 := NB177_178.out; have hnc5 := NB178_177.out; have hcz6_0 : w4.cell? ⟨gb177, 0, none⟩ = some (.slice A0_0 l0_0.length c0_0) := (blk_cell BK177.out 0).trans rfl; have hcz6_1 : w4.cell? ⟨gb177, 1, none⟩ = some (.int .i64 a0_1) := (blk_cell BK177.out 1).trans rfl; have hcz6_2 : w4.cell? ⟨gb177, 2, none⟩ = some (.int .i64 a0_2) := (blk_cell BK177.out 2).trans rfl; have hcz6_3 : w4.cell? ⟨gb177, 3, none⟩ = some (.slice A0_3 l0_3.length c0_3) := (blk_cell BK177.out 3).trans rfl; have hfz6_0 := blk_frozen BK177.out 0; have hfz6_1 := blk_frozen BK177.out 1; have hfz6_2 := blk_frozen BK177.out 2; have hfz6_3 := blk_frozen BK177.out 3; obtain ⟨Ao7, co7, eo7⟩ := Kd.R_slice HO1.out; subst eo7; have hcz8_0 : w4.cell? ⟨gb178, 0, none⟩ = some (.int .i64 0) := (blk_cell BK178.out 0).trans rfl; have hcz8_1 : w4.cell? ⟨gb178, 1, none⟩ = some (.int .i64 0) := (blk_cell BK178.out 1).trans rfl; have hcz8_2 : w4.cell? ⟨gb178, 2, none⟩ = some (.slice none 0 0) := (blk_cell BK178.out 2).trans rfl; have hfz8_0 := blk_frozen BK178.out 0; have hfz8_1 := blk_frozen BK178.out 1; have hfz8_2 := blk_frozen BK178.out 2))
 refine bodyPost_ret (results_cell_row rfl _ _ gb178 24 #[.int .i64 a0_1, .int .i64 a0_2, .slice Ao7 l1.length co7] (0, 0) _ rfl (by refine blk_put (cs := #[.int .i64 a0_1, .int .i64 a0_2, .slice none 0 0]) ?_ 2 _ rfl; refine blk_put (cs := #[.int .i64 a0_1, .int .i64 0, .slice none 0 0]) ?_ 1 _ rfl; refine blk_put (cs := #[.int .i64 0, .int .i64 0, .slice none 0 0]) ?_ 0 _ rfl; exact BK178.out) Try.underlying24 rfl (by kernel_rfl)) rfl ?_
 exact ⟨_, by first | rfl | (simp [errW_none, errW_some] <;> rfl) | (simp [*, errW_none, errW_some] <;> rfl), by (with_reducible repeat (first | apply Kd.R_alloc | apply Kd.R_drewN | apply Kd.R_drew)); exact Kd.R_mono (rf3 (Kd.R_types HO1.out BK178.out (by decide)) (fun _ hk => hk.2) (.int .i64 a0_1) (.int .i64 a0_2) (.slice Ao7 l1.length co7)) (fun _ hk => hk.1), by repeat (with_reducible first | exact HB.out | apply pw_below_drewN | apply below_drew1 | refine below_set ?_ (Aside0.out (by assumption))), by repeat (first | (with_reducible first | exact HK.out | apply Kept.alloc | apply Kept.drewN | apply Kept.drew | refine Kept.setCell ?_ (.inr GW177.out) _ | refine Kept.setCell ?_ (.inr GW178.out) _) | exact HK.out)⟩

/-! ### api_Alarm_100: function 100 -/
def api_Alarm_100.f (l0 : List S28) (a1 : Int) : Option (List S28) := if 0 ≤ a1 then if a1 < 2199023255552 then some [] else none else none
set_option maxHeartbeats 8000000 in
set_option maxRecDepth 100000 in
theorem api_Alarm_100.calls (a1 : Int) (r : List S28) (w : World) (h : api_Alarm_100.f [] a1 = some r) :
    Calls Try.prog 100 #[.slice none 0 0, .int .i64 a1] w fun e w' => ∃ v0_ : Value, e = .returned (v0_) ∧ Kd.R k28 28 w' w.heap.size (fun _ => True) v0_ r ∧ Below w.heap.size w w' := by
  unfold api_Alarm_100.f at h
  by_cases c1 : 0 ≤ a1
  · rw [if_pos c1] at h
    by_cases c2 : a1 < 2199023255552
    · rw [if_pos c2] at h
      obtain rfl := Option.some.inj h
      have b1 : decide (a1 < 0) = false := decide_eq_false (by omega)
      by_cases c3 : 0 < a1
      · have b3 : decide (0 < a1) = true := decide_eq_true c3
        go_enter Try.func100, Try.ntmps100
        go_wp2_with ((with_reducible refine gate_builtin (b := .append) (xs := #[.tmp 20, .tmp 21]) rfl ?_); at_builtin; refine Kd.R_append_zeros k28 (w0 := w) w.heap.size rfl (.tmp 20) (.tmp 21) 70 3 28 (.agg #[.int .i64 0, .int .i64 0, .int .i64 0, .int .i64 0, .int .i64 0, .int .i64 0]) 48 rfl Try.underlying70 Try.underlying3 info28 rfl (by decide) (by omega) (.slice none 0 0) ([] : List S28) z28 a1 (fun _ => True) rfl rfl (k28_mkM _ _ _ z28) (fun _ _ => trivial) ?aO c1 ?aB ?aS ?aL ?_; (case aB => exact (by repeat (first | exact Below.refl _ _ | apply pw_below_drewN | apply below_drew1))); (case aO => exact Kd.R_nil _ _ _ _ _); (case aS => exact Nat.le_refl _); (case aL => simp; omega); intro v157 w3 ho hb hg hat; obtain ⟨A, c, rfl⟩ := Kd.R_slice ho; have HB := Aside0.mk (hb); have HO := Aside0.mk (Kd.R_take (m := 0) ho (Nat.zero_le _)); clear ho hb hg hat)
        go_ret
        exact ⟨_, rfl, HO.out, HB.out⟩
      · obtain rfl : a1 = 0 := by omega
        clear h c1 c2 c3 b1
        go_enter Try.func100, Try.ntmps100
        go_wp2
        go_ret
        exact ⟨_, rfl, Kd.R_nil _ _ _ _ _, Below.refl _ _⟩
    · rw [if_neg c2] at h
      exact absurd h (by simp)
  · rw [if_neg c1] at h
    exact absurd h (by simp)

/-! ### api_Alarm_85: function 85 -/
mutual
def api_Alarm_85.l0 : Nat → List (List (S28)) → Int → List (List (S28)) → Int → Int → Option ((List (S28)))
 | 0, _, _, _, _, _ => none
 | k + 1, x0, x3, x9, x10, x11 => if x11 < x10 then (if 0 ≤ x11 then (if x11 < (x9.length : Int) then (if (wrap64 (x3 + ((rd_L5 x9 x11).length : Int))) < 0 then (none) else (api_Alarm_85.l0 k x0 (wrap64 (x3 + ((rd_L5 x9 x11).length : Int))) x9 x10 (wrap64 (x11 + 1)))) else (none)) else (none)) else ((api_Alarm_100.f ([] : List (S28)) x3).bind fun t180 => (api_Alarm_85.l1 k t180 x0 (x0.length : Int) 0))
def api_Alarm_85.l1 : Nat → List (S28) → List (List (S28)) → Int → Int → Option ((List (S28)))
 | 0, _, _, _, _ => none
 | k + 1, x6, x25, x26, x27 => if x27 < x26 then (if 0 ≤ x27 then (if x27 < (x25.length : Int) then (if x6.length + (rd_L5 x25 x27).length < 2932031007402 then (api_Alarm_85.l1 k (x6 ++ (rd_L5 x25 x27)) x25 x26 (wrap64 (x27 + 1))) else (none)) else (none)) else (none)) else (some x6)
end
def api_Alarm_85.f (k : Nat) (l0 : List (List (S28))) : Option ((List (S28))) := api_Alarm_85.l0 k l0 0 l0 (l0.length : Int) 0
theorem api_Alarm_85.mono_l : ∀ k, (∀ y0 y1 y2 y3 y4, LeO (api_Alarm_85.l0 k y0 y1 y2 y3 y4) (api_Alarm_85.l0 (k + 1) y0 y1 y2 y3 y4)) ∧ (∀ y0 y1 y2 y3, LeO (api_Alarm_85.l1 k y0 y1 y2 y3) (api_Alarm_85.l1 (k + 1) y0 y1 y2 y3))
 | 0 => ⟨fun _ _ _ _ _ r h => by simp [api_Alarm_85.l0] at h, fun _ _ _ _ r h => by simp [api_Alarm_85.l1] at h⟩
 | k + 1 => by
  obtain ⟨ih0, ih1⟩ := api_Alarm_85.mono_l k
  refine ⟨?_, ?_⟩
  ·intro y0 y1 y2 y3 y4
   unfold api_Alarm_85.l0
   repeat' first
   | (with_reducible exact ih0 _ _ _ _ _)
   | (with_reducible exact ih1 _ _ _ _)
   | (with_reducible exact LeO.refl _)
   | (with_reducible exact LeO.none _)
   | (with_reducible refine LeO.ite ?_ ?_)
   | (with_reducible refine LeO.bind ?_ (fun _ => ?_))
   | exact ih0 _ _ _ _ _
   | exact ih1 _ _ _ _
   | exact LeO.none _
   | refine LeO.ite ?_ ?_
   | refine LeO.bind ?_ (fun _ => ?_)
  ·intro y0 y1 y2 y3
   unfold api_Alarm_85.l1
   repeat' first
   | (with_reducible exact ih0 _ _ _ _ _)
   | (with_reducible exact ih1 _ _ _ _)
   | (with_reducible exact LeO.refl _)
   | (with_reducible exact LeO.none _)
   | (with_reducible refine LeO.ite ?_ ?_)
   | (with_reducible refine LeO.bind ?_ (fun _ => ?_))
   | exact ih0 _ _ _ _ _
   | exact ih1 _ _ _ _
   | exact LeO.none _
   | refine LeO.ite ?_ ?_
   | refine LeO.bind ?_ (fun _ => ?_)
theorem api_Alarm_85.mono : ∀ a0 k, LeO (api_Alarm_85.f k a0) (api_Alarm_85.f (k + 1) a0) := by
 intro a0 k
 obtain ⟨ih0, ih1⟩ := api_Alarm_85.mono_l k
 unfold api_Alarm_85.f
 repeat' first
   | (with_reducible exact ih0 _ _ _ _ _)
   | (with_reducible exact ih1 _ _ _ _)
   | (with_reducible exact LeO.refl _)
   | (with_reducible exact LeO.none _)
   | (with_reducible refine LeO.ite ?_ ?_)
   | (with_reducible refine LeO.bind ?_ (fun _ => ?_))
   | exact ih0 _ _ _ _ _
   | exact ih1 _ _ _ _
   | exact LeO.none _
   | refine LeO.ite ?_ ?_
   | refine LeO.bind ?_ (fun _ => ?_)
set_option maxHeartbeats 8000000 in
set_option maxRecDepth 100000 in
theorem api_Alarm_85.calls (k : Nat) (A0 : Option Addr) (c0 : Nat) (l0 : List (List (S28))) (r : List (S28)) (w : World) (hr0 : Kd.C (Kd.slice 28 k28) w A0 l0.length l0) (hc0 : l0.length ≤ c0) (h : api_Alarm_85.f k l0 = some r) :
  Calls Try.prog 85 #[.slice A0 l0.length c0] w fun e w' => ∃ v0_ : Value, e = .returned (v0_) ∧ Kd.R k28 28 w' w.heap.size (fun _ => True) v0_ r ∧ Below w.heap.size w w' := by
 have HR0 := Aside0.mk hr0
 have HC0 := Aside0.mk hc0
 clear hr0 hc0
 have HB := Aside0.mk (Below.refl w.heap.size w)
 have H : (api_Alarm_85.l0 k l0 0 l0 (l0.length : Int) 0) = some r := h
 clear h
 have H' := Aside0.mk H
 clear H
 go_enter Try.func85, Try.ntmps85
 go_wp2
 go_loopg [3, 11] k (fun kq v3 v11 w' => ∃ (x3_1 : Int) (x11_1 : Int), v3 = .int .i64 x3_1 ∧ v11 = .int .i64 x11_1 ∧ Aside0 (api_Alarm_85.l0 kq l0 x3_1 l0 (l0.length : Int) x11_1 = some r) ∧ Aside0 (kq ≤ k) ∧ Aside0 (Below w.heap.size w w'))
 case atStart => exact ⟨(0), (0), (by first | rfl | (simp; done) | (simp [*]; done)), (by first | rfl | (simp; done) | (simp [*]; done)), H', ⟨Nat.le_refl _⟩, ⟨by repeat (with_reducible first | exact HB.out | apply pw_below_drewN | apply below_drew1)⟩⟩
 case round =>
  clear H'
  obtain ⟨x3_1, x11_1, rfl, rfl, HA, HK1, HB⟩ := hrel
  cases gk with
  | zero => exact absurd HA.out (by simp [api_Alarm_85.l0])
  | succ k1 =>
   have H := HA.out
   clear HA
   simp only [api_Alarm_85.l0] at H
   by_cases c2 : x11_1 < (l0.length : Int)
   ·rw [if_pos c2] at H
    have c2b0 : decide (x11_1 < (l0.length : Int)) = true := decide_eq_true c2
    clear c2
    by_cases c3 : 0 ≤ x11_1
    ·rw [if_pos c3] at H
     have c3b0 : decide (0 ≤ x11_1) = true := decide_eq_true c3
     clear c3
     by_cases c4 : x11_1 < (l0.length : Int)
     ·rw [if_pos c4] at H
      have c4b0 : decide (x11_1 < (l0.length : Int)) = true := decide_eq_true c4
      clear c4
      by_cases c5 : (wrap64 (x3_1 + ((rd_L5 l0 x11_1).length : Int))) < 0
      ·rw [if_pos c5] at H
       exact absurd H (by simp)
      ·rw [if_neg c5] at H
       have c5b0 : decide ((wrap64 (x3_1 + ((rd_L5 l0 x11_1).length : Int))) < 0) = false := decide_eq_false c5
       clear c5
       have H' := Aside0.mk H
       clear H
       have p179 : 0 ≤ (x11_1 : Int) := of_decide_eq_true (by first | (with_reducible assumption) | assumption)
       have q179 : x11_1 < (l0.length : Int) := of_decide_eq_true (by first | (with_reducible assumption) | assumption)
       obtain ⟨ad179, A179_0, c179_0, e179, hx179_0, hl179_0, hi179_0⟩ := at_L5 HR0.out x11_1 p179 q179
       cases e179
       replace hx179_0 := (HB.out.cell (World.block_lt_of_cell? w _ hx179_0)).trans hx179_0
       have HR179_0 := Aside0.mk hi179_0
       have HC179_0 := Aside0.mk hl179_0
       clear hi179_0 hl179_0
       replace p179 := eq_true p179
       replace q179 := eq_true q179
       go_wp2
       go_roundg k1
       case measure => have := HK1.out; omega
       case rel => exact ⟨(wrap64 (x3_1 + ((rd_L5 l0 x11_1).length : Int))), (wrap64 (x11_1 + 1)), (by first | rfl | (simp; done) | (simp [*]; done)), (by first | rfl | (simp; done) | (simp [*]; done)), H', ⟨by have := HK1.out; omega⟩, ⟨by repeat (with_reducible first | exact HB.out | apply pw_below_drewN | apply below_drew1)⟩⟩
     ·rw [if_neg c4] at H
      exact absurd H (by simp)
    ·rw [if_neg c3] at H
     exact absurd H (by simp)
   ·rw [if_neg c2] at H
    have c2b0 : decide (x11_1 < (l0.length : Int)) = false := decide_eq_false c2
    clear c2
    replace H := Option.bind_eq_some_iff.mp H
    obtain ⟨t180, A60, H⟩ := H
    try dsimp only at H
    have A6 := Aside0.mk A60
    clear A60
    have H' := Aside0.mk H
    clear H
    go_wp2_with (first | ((with_reducible refine gate_callee (f := 100) rfl ?_); refine goesL_ (some 24) rfl rfl Try.func100 (by kernel_rfl) rfl #[.slice none 0 0, .int .i64 x3_1] rfl (by (try simp only [List.map_toArray, List.map_cons, List.map_nil]); first | done | rfl | (simp only [List.length_drop, List.length_take]; rfl)) ?_; (refine (api_Alarm_100.calls x3_1 t180 _ A6.out).mono ?_); rintro e w7 ⟨v181, rfl, ho0, hb⟩; refine ⟨_, rfl, ?_⟩; have HO182 := Aside0.mk (Kd.R_lower ho0 (below_size HB.out)); replace HB := Aside0.mk (below_step HB.out hb); (try clear hb); (try clear hb2); (try clear hk); (try clear hi); (try clear ho0)))
    (try simp only [Act.put, List.setIfInBounds_toArray, List.set_cons_zero, List.set_cons_succ])
    go_loopg [6, 27] k1 (fun kq v6 v27 w' => ∃ (x6_2 : List (S28)) (x27_2 : Int), v27 = .int .i64 x27_2 ∧ Aside0 (api_Alarm_85.l1 kq x6_2 l0 (l0.length : Int) x27_2 = some r) ∧ Aside0 (kq ≤ k1) ∧ Aside0 (Kd.R k28 28 w' w.heap.size (fun _ => True) v6 x6_2) ∧ Aside0 (Below w.heap.size w w'))
    case atStart => exact ⟨(t180), (0), (by first | rfl | (simp; done) | (simp [*]; done)), H', ⟨Nat.le_refl _⟩, ⟨by (with_reducible repeat (first | apply Kd.R_alloc | apply Kd.R_drewN | apply Kd.R_drew)); exact HO182.out⟩, ⟨by repeat (with_reducible first | exact HB.out | apply pw_below_drewN | apply below_drew1)⟩⟩
    case round =>
     clear H'
     try clear c1; try clear p1; try clear q1; try clear hx1; try clear c2; try clear c2b0; try clear p2; try clear c3; try clear c3b0; try clear c4; try clear c4b0; try clear c5; try clear c5b0; try clear p6; try clear hx179_0; try clear p179; try clear q179
     obtain ⟨x6_2, x27_2, rfl, HA, HK2, HO_6, HB⟩ := hrel
     cases gk with
     | zero => exact absurd HA.out (by simp [api_Alarm_85.l1])
     | succ k2 =>
      have H := HA.out
      clear HA
      simp only [api_Alarm_85.l1] at H
      by_cases c8 : x27_2 < (l0.length : Int)
      ·rw [if_pos c8] at H
       have c8b0 : decide (x27_2 < (l0.length : Int)) = true := decide_eq_true c8
       clear c8
       by_cases c9 : 0 ≤ x27_2
       ·rw [if_pos c9] at H
        have c9b0 : decide (0 ≤ x27_2) = true := decide_eq_true c9
        clear c9
        by_cases c10 : x27_2 < (l0.length : Int)
        ·rw [if_pos c10] at H
         have c10b0 : decide (x27_2 < (l0.length : Int)) = true := decide_eq_true c10
         clear c10
         by_cases c11 : x6_2.length + (rd_L5 l0 x27_2).length < 2932031007402
         ·rw [if_pos c11] at H
          have LMc11 := Aside0.mk c11
          clear c11
          obtain ⟨y184, hy184⟩ : ∃ y_ : List (S28), y_ = (x6_2 ++ (rd_L5 l0 x27_2)) := ⟨_, rfl⟩
          replace H : (api_Alarm_85.l1 k2 y184 l0 (l0.length : Int) (wrap64 (x27_2 + 1))) = some r := by first | (rw [hy184]; with_reducible exact H) | (have H2_ := (Option.bind_some _ _).symm.trans H; rw [hy184]; with_reducible exact H2_) | (have H2_ := (Option.bind_some _ _).symm.trans H; with_reducible exact H2_) | with_reducible exact H | (rw [hy184]; exact H) | exact H
          have Ny184 := Aside0.mk hy184
          clear hy184
          have H' := Aside0.mk H
          clear H
          have p183 : 0 ≤ (x27_2 : Int) := of_decide_eq_true (by first | (with_reducible assumption) | assumption)
          have q183 : x27_2 < (l0.length : Int) := of_decide_eq_true (by first | (with_reducible assumption) | assumption)
          obtain ⟨ad183, A183_0, c183_0, e183, hx183_0, hl183_0, hi183_0⟩ := at_L5 HR0.out x27_2 p183 q183
          cases e183
          replace hx183_0 := (HB.out.cell (World.block_lt_of_cell? w _ hx183_0)).trans hx183_0
          have HR183_0 := Aside0.mk hi183_0
          have HC183_0 := Aside0.mk hl183_0
          clear hi183_0 hl183_0
          replace p183 := eq_true p183
          replace q183 := eq_true q183
          go_wp2_with (first | ((with_reducible refine gate_builtin (b := .append) (xs := #[.tmp 31, .tmp 32]) rfl ?_); at_builtin; refine Kd.R_append_rows k28 (w0 := w) w.heap.size rfl (.tmp 31) (.tmp 32) 70 28 (.agg #[(.int .i64 0), (.int .i64 0), (.int .i64 0), (.int .i64 0), (.int .i64 0), (.int .i64 0)]) 48 rfl Try.underlying70 info28 rfl (by decide) (by omega) u6 x6_2 (rd_L5 l0 x27_2) _ _ _ (fun _ => True) (fun _ => False) rfl rfl ?aO ?aR (fun _ _ h => h) (fun _ h => h.elim) ?aF ?aB ?aS ?aL ?_; (case aR => repeat (first | exact (Kd.C_below HR183_0.out HB.out) | (with_reducible refine Kd.C_alloc ?_ _) | (with_reducible refine Kd.C_drewN ?_ _) | (with_reducible refine Kd.C_drew ?_))); (case aB => exact HB.out); (case aF => exact (fun _ _ => trivial)); (case aO => exact (HO_6.out)); (case aS => exact (below_size HB.out)); (case aL => have := LMc11.out; omega); intro v185 w12 ho hb hg hat; rw [← Ny184.out] at ho; replace HB := Aside0.mk (hb); have HO186 := Aside0.mk (ho); clear HO_6; clear ho hb hg hat))
          go_roundg k2
          case measure => have := HK1.out; have := HK2.out; omega
          case rel => exact ⟨(y184), (wrap64 (x27_2 + 1)), (by first | rfl | (simp; done) | (simp [*]; done)), H', ⟨by have := HK1.out; have := HK2.out; omega⟩, ⟨by (with_reducible repeat (first | apply Kd.R_alloc | apply Kd.R_drewN | apply Kd.R_drew)); exact HO186.out⟩, ⟨by repeat (with_reducible first | exact HB.out | apply pw_below_drewN | apply below_drew1)⟩⟩
         ·rw [if_neg c11] at H
          exact absurd H (by simp)
        ·rw [if_neg c10] at H
         exact absurd H (by simp)
       ·rw [if_neg c9] at H
        exact absurd H (by simp)
      ·rw [if_neg c8] at H
       have c8b0 : decide (x27_2 < (l0.length : Int)) = false := decide_eq_false c8
       clear c8
       obtain rfl := Option.some.inj H
       go_wp2
       go_ret
       exact ⟨_, by first | rfl | (simp [errW_none, errW_some] <;> rfl) | (simp [*, errW_none, errW_some] <;> rfl), by (with_reducible repeat (first | apply Kd.R_alloc | apply Kd.R_drewN | apply Kd.R_drew)); exact HO_6.out, by repeat (with_reducible first | exact HB.out | apply pw_below_drewN | apply below_drew1)⟩

/-! ### board_alarms_with: function 54 -/
def board_alarms_with.f (k : Nat) (l0 : List (S28)) (a1 : Int) (a2 : Int) (l3 : List (S28)) : Option ((List (S28))) := if 0 ≤ a1 then (if a1 ≤ (l0.length : Int) then (if 0 ≤ (wrap64 (a1 + a2)) then (if (wrap64 (a1 + a2)) ≤ (l0.length : Int) then ((api_Alarm_85.f k (([(l0.take (a1 : Int).toNat), l3, (l0.drop ((wrap64 (a1 + a2)) : Int).toNat)] : List (List (S28))))).bind fun t200 => (some t200)) else (none)) else (none)) else (none)) else (none)
theorem board_alarms_with.mono : ∀ a0 a1 a2 a3 k, LeO (board_alarms_with.f k a0 a1 a2 a3) (board_alarms_with.f (k + 1) a0 a1 a2 a3) := by
 intro a0 a1 a2 a3 k
 unfold board_alarms_with.f
 repeat' first
   | (with_reducible exact api_Alarm_85.mono _ _)
   | (with_reducible exact LeO.refl _)
   | (with_reducible exact LeO.none _)
   | (with_reducible refine LeO.ite ?_ ?_)
   | (with_reducible refine LeO.bind ?_ (fun _ => ?_))
   | exact api_Alarm_85.mono _ _
   | exact LeO.none _
   | refine LeO.ite ?_ ?_
   | refine LeO.bind ?_ (fun _ => ?_)
def board_alarms_with.T1 : Bool × List (List Nat × List Nat) := (true, [([], []), ([], []), ([0, 1], [0, 1]), ([], []), ([], []), ([], []), ([], []), ([5, 6], [5, 6]), ([4, 7], [4, 7]), ([2, 3, 8], [2, 3, 8]), ([9], [9]), ([10, 10, 0, 1, 2, 3, 4, 5, 6, 7, 8, 9, 10], [10])])
def board_alarms_with.B1 : List Nat := [0, 0, 3, 0, 0, 0, 0, 96, 240, 511, 1023, 2047]
theorem board_alarms_with.tab1 : rtab .any (opsOf Try.f54 1) = board_alarms_with.T1 := by kernel_rfl
theorem board_alarms_with.bits1 : waitsOk board_alarms_with.T1.2 board_alarms_with.B1 = true := by kernel_rfl
set_option maxHeartbeats 8000000 in
set_option maxRecDepth 100000 in
theorem board_alarms_with.calls (k : Nat) (P0_ : Nat → Prop) (A0 : Option Addr) (c0 : Nat) (l0 : List (S28)) (a1 : Int) (a2 : Int) (P3_ : Nat → Prop) (A3 : Option Addr) (c3 : Nat) (l3 : List (S28)) (r : List (S28)) (w : World) (hs0 : Kd.V k28 28 w w.heap.size (fun k_ => P0_ k_) (.slice A0 l0.length c0) l0) (hs3 : Kd.V k28 28 w w.heap.size (fun k_ => P3_ k_) (.slice A3 l3.length c3) l3) (h : board_alarms_with.f k l0 a1 a2 l3 = some r) :
  Calls Try.prog 54 #[.slice A0 l0.length c0, .int .i64 a1, .int .i64 a2, .slice A3 l3.length c3] w fun e w' => ∃ v0_ : Value, e = .returned (v0_) ∧ Kd.R k28 28 w' w.heap.size (fun k_ => (w.heap.size ≤ k_)) v0_ r ∧ Below w.heap.size w w' := by
 have HO0 := Aside0.mk (show Kd.V k28 28 w w.heap.size (fun k_ => ((P0_ k_ ∨ P3_ k_) ∨ w.heap.size ≤ k_)) (.slice A0 l0.length c0) l0 from Kd.V_mono hs0 (fun k_ hk => .inl (.inl hk)))
 have HO3 := Aside0.mk (show Kd.V k28 28 w w.heap.size (fun k_ => ((P0_ k_ ∨ P3_ k_) ∨ w.heap.size ≤ k_)) (.slice A3 l3.length c3) l3 from Kd.V_mono hs3 (fun k_ hk => .inl (.inr hk)))
 have HB := Aside0.mk (Below.refl w.heap.size w)
 have H : (if 0 ≤ a1 then (if a1 ≤ (l0.length : Int) then (if 0 ≤ (wrap64 (a1 + a2)) then (if (wrap64 (a1 + a2)) ≤ (l0.length : Int) then ((api_Alarm_85.f k (([(l0.take (a1 : Int).toNat), l3, (l0.drop ((wrap64 (a1 + a2)) : Int).toNat)] : List (List (S28))))).bind fun t200 => (some t200)) else (none)) else (none)) else (none)) else (none)) = some r := h
 clear h
 by_cases c5 : 0 ≤ a1
 ·rw [if_pos c5] at H
  have c5b0 := eq_true c5
  have c5b1 : decide (0 ≤ a1) = true := decide_eq_true c5
  clear c5
  by_cases c6 : a1 ≤ (l0.length : Int)
  ·rw [if_pos c6] at H
   have c6b0 := eq_true c6
   have c6b1 : decide (a1 ≤ (l0.length : Int)) = true := decide_eq_true c6
   clear c6
   obtain ⟨y187, hy187⟩ : ∃ y_ : List (S28), y_ = (l0.take (a1 : Int).toNat) := ⟨_, rfl⟩
   replace H : (if 0 ≤ (wrap64 (a1 + a2)) then (if (wrap64 (a1 + a2)) ≤ (l0.length : Int) then ((api_Alarm_85.f k (([y187, l3, (l0.drop ((wrap64 (a1 + a2)) : Int).toNat)] : List (List (S28))))).bind fun t200 => (some t200)) else (none)) else (none)) = some r := by first | (rw [hy187]; with_reducible exact H) | (have H2_ := (Option.bind_some _ _).symm.trans H; rw [hy187]; with_reducible exact H2_) | (have H2_ := (Option.bind_some _ _).symm.trans H; with_reducible exact H2_) | with_reducible exact H | (rw [hy187]; exact H) | exact H
   have Ny187 := Aside0.mk hy187
   clear hy187
   obtain ⟨ji7, hji7⟩ : ∃ j_ : Int, (wrap64 (a1 + a2)) = j_ := ⟨_, rfl⟩
   replace H : (if 0 ≤ (ji7) then (if (ji7) ≤ (l0.length : Int) then ((api_Alarm_85.f k (([y187, l3, (l0.drop ((ji7) : Int).toNat)] : List (List (S28))))).bind fun t200 => (some t200)) else (none)) else (none)) = some r := by first | (rw [hji7] at H; exact H) | (simp only [hji7] at H ⊢; exact H)
   have hji7w : (IntKind.i64.wrap (a1 + a2)) = ji7 := (i64_w _).trans hji7
   by_cases c8 : 0 ≤ (ji7)
   ·rw [if_pos c8] at H
    have c8b0 := eq_true c8
    have c8b1 : decide (0 ≤ (ji7)) = true := decide_eq_true c8
    clear c8
    by_cases c9 : (ji7) ≤ (l0.length : Int)
    ·rw [if_pos c9] at H
     have c9b0 := eq_true c9
     have c9b1 : decide ((ji7) ≤ (l0.length : Int)) = true := decide_eq_true c9
     clear c9
     obtain ⟨y192, hy192⟩ : ∃ y_ : List (S28), y_ = (l0.drop ((ji7) : Int).toNat) := ⟨_, rfl⟩
     replace H : ((api_Alarm_85.f k (([y187, l3, y192] : List (List (S28))))).bind fun t200 => (some t200)) = some r := by first | (rw [hy192]; with_reducible exact H) | (have H2_ := (Option.bind_some _ _).symm.trans H; rw [hy192]; with_reducible exact H2_) | (have H2_ := (Option.bind_some _ _).symm.trans H; with_reducible exact H2_) | with_reducible exact H | (rw [hy192]; exact H) | exact H
     have Ny192 := Aside0.mk hy192
     clear hy192
     obtain ⟨y197, hy197⟩ : ∃ y_ : List (List (S28)), y_ = (([y187, l3, y192] : List (List (S28)))) := ⟨_, rfl⟩
     replace H : ((api_Alarm_85.f k y197).bind fun t200 => (some t200)) = some r := by first | (rw [hy197]; with_reducible exact H) | (have H2_ := (Option.bind_some _ _).symm.trans H; rw [hy197]; with_reducible exact H2_) | (have H2_ := (Option.bind_some _ _).symm.trans H; with_reducible exact H2_) | with_reducible exact H | (rw [hy197]; exact H) | exact H
     have Ny197 := Aside0.mk hy197
     clear hy197
     replace H := Option.bind_eq_some_iff.mp H
     obtain ⟨t200, A100, H⟩ := H
     try dsimp only at H
     have A10 := Aside0.mk A100
     clear A100
     obtain rfl := Option.some.inj H
     go_enter Try.func54, Try.ntmps54
     try go_wp2
     replace HO0 := Aside0.mk (Kd.V_drew HO0.out)
     replace HO3 := Aside0.mk (Kd.V_drew HO3.out)
     replace HB := Aside0.mk (below_drew1 HB.out)
     have q12 : (a1 : Int) ≤ ((l0.length : Int) : Int) := of_decide_eq_true (by first | (with_reducible assumption) | assumption)
     obtain ⟨i012, hi012, _, hsz12, _⟩ := info_parts info28
     have hroom12 : l0.length ≤ c0 := (Kd.V_reads' HO0.out).2.1
     have hC12 : Kd.F k28 _ _ A0 l0.length l0 := (Kd.V_at (base := w.heap.size) HO0.out).2.2
     have hcut12 := cut_to (P := Try.prog) 70 28 .i64 Try.underlying70 hi012 A0 l0.length c0 a1 (of_decide_eq_true (by first | (with_reducible assumption) | assumption)) q12 hroom12
     have hr12 := Kd.F_take (m := (a1 : Int).toNat) hC12 (by omega)
     have hy12 : y187.length = (a1 : Int).toNat := (by rw [Ny187.out, List.length_take]; omega)
     rw [← Ny187.out] at hr12
     rw [← hy12] at hcut12
     have HO191 := Aside0.mk (show Kd.V k28 28 _ w.heap.size _ (.slice A0 y187.length c0) y187 from Kd.V_mk (by omega) hr12)
     have HC191 := Aside0.mk (show y187.length ≤ c0 from by omega)
     clear hr12 hC12 hroom12 hi012 hsz12
     have KY12 := Aside0.mk hy12
     clear hy12
     replace q12 := eq_true q12
     have q13 : ((ji7) : Int) ≤ ((l0.length : Int) : Int) := of_decide_eq_true (by first | (with_reducible assumption) | assumption)
     obtain ⟨i013, hi013, _, hsz13, _⟩ := info_parts info28
     have hroom13 : l0.length ≤ c0 := (Kd.V_reads' HO0.out).2.1
     have hC13 : Kd.F k28 _ _ A0 l0.length l0 := (Kd.V_at (base := w.heap.size) HO0.out).2.2
     have q013 : (0 : Int) ≤ ((ji7) : Int) := of_decide_eq_true (by first | (with_reducible assumption) | assumption)
     have hcut13 := cut_from (P := Try.prog) 70 28 .i64 Try.underlying70 hi013 6 hsz13 A0 l0.length c0 (ji7) q013 q13
     have hr13 := Kd.F_cut (m := ((ji7) : Int).toNat) (c := c0) hC13 (by omega) hroom13
     obtain ⟨A13, hA13⟩ : ∃ A1, A1 = (if c0 = ((ji7) : Int).toNat then A0 else (A0 : Option Addr).map (·.add (((ji7) : Int).toNat * 6))) := ⟨_, rfl⟩
     obtain ⟨c13, hc13⟩ : ∃ c1, c1 = c0 - ((ji7) : Int).toNat := ⟨_, rfl⟩
     have hy13 : y192.length = l0.length - ((ji7) : Int).toNat := (by rw [Ny192.out, List.length_drop] <;> omega)
     rw [show (l0).drop ((ji7) : Int).toNat = y192 from Ny192.out.symm] at hr13
     replace hr13 : Kd.F k28 _ _ A13 y192.length y192 := (by rw [hA13]; exact hr13)
     rw [← hy13, ← hA13, ← hc13] at hcut13
     have HO196 := Aside0.mk (show Kd.V k28 28 _ w.heap.size _ (.slice A13 y192.length c13) y192 from Kd.V_mk (by rw [hy13, hc13]; exact Nat.sub_le_sub_right hroom13 _) hr13)
     have HC196 := Aside0.mk (show y192.length ≤ c13 from by rw [hy13, hc13]; exact Nat.sub_le_sub_right hroom13 _)
     clear hr13 hC13 hroom13 hi013 hsz13 hc13
     have KY13 := Aside0.mk hy13
     have KA13 := Aside0.mk hA13
     clear hy13 hA13
     replace q13 := eq_true q13
     refine start_ (n := 12) (S := fun w' => True) (ds := []) #[false, false, false, false, false, false, false, false, false, false, false, false] (by kernel_rfl) rfl rfl trivial (fun hHeld => ?_); refine with_tabW board_alarms_with.tab1 board_alarms_with.bits1 (fun HT_ HW_ => ?_)
     generalize w.drew = w11 at HO0 HO3 HB HO191 HO196 hHeld ⊢
     have Q_ := Qs.mk (n := 12) [(0, 0, 9, 1), (0, 1, 10, 3), (0, 2, 11, 7), (0, 3, 12, 15), (0, 4, 13, 31), (0, 5, 14, 63), (0, 6, 15, 127), (0, 7, 16, 255), (0, 8, 17, 511)]
     iterate 9 (first | (obtain ⟨q_, Q_⟩ := Qs.p Q_; refine pureQ_ q_ (v := ?_) (a' := ?_) rfl rfl (any_of HT_.out (by kernel_rfl)) (fun _ _ _ h => h) (Or.inl ⟨by rfl, ?_⟩) ?_ ?_; rotate_left; (intro w'; go_simp; with_reducible rfl); rotate_left; (simp only [Act.put, List.setIfInBounds_toArray, List.set_cons_zero, List.set_cons_succ, i64_w, i32_w]; rfl)))
     clear Q_
     refine one_ (i := 9) (N := some 18) (dn_ 10 12) rfl rfl (one_of HT_.out (by kernel_rfl)) (by decide) (fun K hK => ?_)
     refine Kd.N_lit_step (Kd.slice 28 k28) _ 70 ?hg (N' := 18) ?hd (xs := ([y187, l3, y192] : List (List (S28)))) (inner := [.slice A0 y187.length c0, .slice A3 l3.length c3, .slice A13 y192.length c13]) (ok := (fun k_ => ((P0_ k_ ∨ P3_ k_) ∨ w.heap.size ≤ k_))) (okp := (fun k_ => ((P0_ k_ ∨ P3_ k_) ∨ w.heap.size ≤ k_))) ?hr ?hp (fun _ hk => hk) ((show ∀ k_, w11.heap.size ≤ k_ → (fun k_ => ((P0_ k_ ∨ P3_ k_) ∨ w.heap.size ≤ k_)) k_ from fun k_ hk => (.inr (Nat.le_trans (below_size HB.out) hk))) _ (Nat.le_refl _)) (Below.refl _ _) (Nat.le_refl _) (by simp) ?_; (case hd => rfl); (case hg => rfl); (case hr => first | (go_simp; done) | (go_simp; rfl)); (case hp => exact (Reps.one (show Kd.FK (Kd.slice 28 k28) _ _ y187 [.slice A0 y187.length c0] from (Kd.FK_slice_mk (Kd.V_reads' (Kd.V_mono (ok' := (fun k_ => ((P0_ k_ ∨ P3_ k_) ∨ w.heap.size ≤ k_))) (HO191.out) (fun k_ hk => hk))).2.1 (Kd.V_F (Kd.V_mono (ok' := (fun k_ => ((P0_ k_ ∨ P3_ k_) ∨ w.heap.size ≤ k_))) (HO191.out) (fun k_ hk => hk))))) (Reps.one (show Kd.FK (Kd.slice 28 k28) _ _ l3 [.slice A3 l3.length c3] from (Kd.FK_slice_mk (Kd.V_reads' (Kd.V_mono (ok' := (fun k_ => ((P0_ k_ ∨ P3_ k_) ∨ w.heap.size ≤ k_))) (HO3.out) (fun k_ hk => hk))).2.1 (Kd.V_F (Kd.V_mono (ok' := (fun k_ => ((P0_ k_ ∨ P3_ k_) ∨ w.heap.size ≤ k_))) (HO3.out) (fun k_ hk => hk))))) (Reps.one (show Kd.FK (Kd.slice 28 k28) _ _ y192 [.slice A13 y192.length c13] from (Kd.FK_slice_mk (Kd.V_reads' (Kd.V_mono (ok' := (fun k_ => ((P0_ k_ ∨ P3_ k_) ∨ w.heap.size ≤ k_))) (HO196.out) (fun k_ hk => hk))).2.1 (Kd.V_F (Kd.V_mono (ok' := (fun k_ => ((P0_ k_ ∨ P3_ k_) ∨ w.heap.size ≤ k_))) (HO196.out) (fun k_ hk => hk))))) (Reps.none _ _)))))
     intro v198 w14 ho15 hb hg_ hnew_
     clear hg_ hnew_
     (first | rw [← Ny197.out] at ho15 | (simp only [Int.reduceToNat] at ho15; rw [← Ny197.out] at ho15))
     replace HO0 := Aside0.mk (Kd.V_elder' (HO0.out) (Kd.N_base ho15) hb)
     replace HO3 := Aside0.mk (Kd.V_elder' (HO3.out) (Kd.N_base ho15) hb)
     replace HO191 := Aside0.mk (Kd.V_elder' (HO191.out) (Kd.N_base ho15) hb)
     replace HO196 := Aside0.mk (Kd.V_elder' (HO196.out) (Kd.N_base ho15) hb)
     have HO199 := Aside0.mk (Kd.N_lower ho15 (below_size HB.out))
     replace HB := Aside0.mk (below_step HB.out hb)
     clear hb ho15
     obtain ⟨Ao16, co16, eo16⟩ := Kd.N_slice HO199.out
     (first | subst eo16 | (injection eo16 with f1_ f2_ f3_; have f4_ := f1_.symm; have f5_ := f3_.symm; clear f1_ f2_ f3_; subst f4_; subst f5_))
     refine hK.out _ _ trivial (fun hHeld => ?_)
     clear hK K
     refine norm_ (a' := ?_) ?_ ?_
     rotate_left
     ·show Act.put _ (some 18) _ = _
      simp only [Act.put, List.setIfInBounds_toArray, List.set_cons_zero, List.set_cons_succ, i64_w, i32_w]
      rfl
     refine one_ (i := 10) (N := some 19) (dn_ 11 12) rfl rfl (one_of HT_.out (by kernel_rfl)) (by decide) (fun K hK => ?_)
     refine goes_ Try.func85 (by kernel_rfl) rfl #[.slice Ao16 y197.length co16] (by rfl) rfl rfl (by (try simp only [List.map_toArray, List.map_cons, List.map_nil]); first | done | rfl | (simp only [List.length_drop, List.length_take]; rfl)) ?_
     with_reducible refine (api_Alarm_85.calls k _ _ y197 t200 _ ?side1 ?side2 A10.out).mono ?_
     (case side1 => repeat (first | exact (Kd.N_reads' HO199.out).2.2 | (with_reducible refine Kd.C_alloc ?_ _) | (with_reducible refine Kd.C_drewN ?_ _) | (with_reducible refine Kd.C_drew ?_)))
     (case side2 => exact (Kd.N_reads' HO199.out).2.1)
     rintro e w17 ⟨v201, rfl, ho0, hb⟩
     refine ⟨_, rfl, ?_⟩
     replace HO0 := Aside0.mk (Kd.V_elder' (HO0.out) (Kd.R_base ho0) hb)
     replace HO3 := Aside0.mk (Kd.V_elder' (HO3.out) (Kd.R_base ho0) hb)
     replace HO191 := Aside0.mk (Kd.V_elder' (HO191.out) (Kd.R_base ho0) hb)
     replace HO196 := Aside0.mk (Kd.V_elder' (HO196.out) (Kd.R_base ho0) hb)
     replace HO199 := Aside0.mk (Kd.N_elder' (HO199.out) (Kd.R_base ho0) hb)
     have HO202 := Aside0.mk (Kd.R_lower (Kd.R_newM (M := fun k_ => (w.heap.size ≤ k_)) ho0 (below_size HB.out) (fun k_ h_ => h_)) (below_size HB.out))
     replace HB := Aside0.mk (below_step HB.out hb)
     (try clear hb)
     (try clear hb2)
     (try clear hk)
     (try clear hi)
     (try clear ho0)
     refine hK.out _ _ trivial (fun hHeld => ?_)
     clear hK K
     refine norm_ (a' := ?_) ?_ ?_
     rotate_left
     ·show Act.put _ (some 19) _ = _
      simp only [Act.put, List.setIfInBounds_toArray, List.set_cons_zero, List.set_cons_succ, i64_w, i32_w]
      rfl
     refine pure_ (i := 11) (N := some 8) (v := ?_) (a' := ?_) #[true, true, true, true, true, true, true, true, true, true, true, true] rfl rfl (any_of HT_.out (by kernel_rfl)) (fun _ _ _ h => h) (Or.inl ⟨by rfl, ?_⟩) ?_ ?_
     rotate_left
     ·intro w'
      go_simp
      with_reducible rfl
     rotate_left; (simp only [Act.put, List.setIfInBounds_toArray, List.set_cons_zero, List.set_cons_succ, i64_w, i32_w]; rfl)
     refine done_ (done_of HT_.out (by kernel_rfl)) ?_
     try go_wp2
     go_ret
     exact ⟨_, by first | rfl | (simp [errW_none, errW_some] <;> rfl) | (simp only [← hji7]; first | rfl | (simp [errW_none, errW_some] <;> rfl)) | (simp [*, errW_none, errW_some] <;> rfl), by (with_reducible repeat (first | apply Kd.R_alloc | apply Kd.R_drewN | apply Kd.R_drew)); exact Kd.R_mono HO202.out (fun _ hk => hk.1), by repeat (with_reducible first | exact HB.out | apply pw_below_drewN | apply below_drew1)⟩
    ·rw [if_neg c9] at H
     exact absurd H (by simp)
   ·rw [if_neg c8] at H
    exact absurd H (by simp)
  ·rw [if_neg c6] at H
   exact absurd H (by simp)
 ·rw [if_neg c5] at H
  exact absurd H (by simp)

end Go.Proofs.Ytcfpbmdndapeaaa.F
