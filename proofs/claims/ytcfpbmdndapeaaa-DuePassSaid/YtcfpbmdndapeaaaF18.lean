-- Written by a program of this session (xprint.py), out of the translation and of contracts proved by hand.
import Derived.Test.YtcfpbmdndapeaaaF0
import Derived.Test.YtcfpbmdndapeaaaF17
namespace Go.Proofs.Ytcfpbmdndapeaaa.F
open Go.RowKit Go.Proofs.YtcfpbmdndapeaaaV.PrintWords Go.Proofs.YtcfpbmdndapeaaaV.PrintLast Go.Proofs.YtcfpbmdndapeaaaV.PrintMore
attribute [local go_sem] max2_int min2_int max_two min_two max_three min_three max_four min_four   -- for this text's walks alone
set_option linter.unusedVariables false
set_option linter.unusedSimpArgs false

/-! ### api_Alarm_85: function 85 -/
mutual
def api_Alarm_85.l0 : Nat → List (List (S28)) → Int → List (List (S28)) → Int → Int → Option ((List (S28)))
 | 0, _, _, _, _, _ => none
 | k + 1, x0, x3, x9, x10, x11 => if x11 < x10 then (if 0 ≤ x11 then (if x11 < (x9.length : Int) then (if (wrap64 (x3 + ((rd_L4 x9 x11).length : Int))) < 0 then (none) else (api_Alarm_85.l0 k x0 (wrap64 (x3 + ((rd_L4 x9 x11).length : Int))) x9 x10 (wrap64 (x11 + 1)))) else (none)) else (none)) else ((api_Alarm_100.f ([] : List (S28)) x3).bind fun t259 => (api_Alarm_85.l1 k t259 x0 (x0.length : Int) 0))
def api_Alarm_85.l1 : Nat → List (S28) → List (List (S28)) → Int → Int → Option ((List (S28)))
 | 0, _, _, _, _ => none
 | k + 1, x6, x25, x26, x27 => if x27 < x26 then (if 0 ≤ x27 then (if x27 < (x25.length : Int) then (if x6.length + (rd_L4 x25 x27).length < 2932031007402 then (api_Alarm_85.l1 k (x6 ++ (rd_L4 x25 x27)) x25 x26 (wrap64 (x27 + 1))) else (none)) else (none)) else (none)) else (some x6)
end
def api_Alarm_85.f (k : Nat) (l0 : List (List (S28))) : Option ((List (S28))) := api_Alarm_85.l0 k l0 0 l0 (l0.length : Int) 0
theorem api_Alarm_85.mono_l : ∀ k, (∀ y0 y1 y2 y3 y4, LeO (api_Alarm_85.l0 k y0 y1 y2 y3 y4) (api_Alarm_85.l0 (k + 1) y0 y1 y2 y3 y4)) ∧ (∀ y0 y1 y2 y3, LeO (api_Alarm_85.l1 k y0 y1 y2 y3) (api_Alarm_85.l1 (k + 1) y0 y1 y2 y3))
 | 0 => ⟨fun _ _ _ _ _ r h => by simp [api_Alarm_85.l0] at h, fun _ _ _ _ r h => by simp [api_Alarm_85.l1] at h⟩
 | k + 1 => by
  obtain ⟨ih0, ih1⟩ := api_Alarm_85.mono_l k
  refine ⟨?_, ?_⟩
  ·intro y0 y1 y2 y3 y4
   unfold api_Alarm_85.l0
   repeat' first
   | (with_reducible exact ih0 _ _ _ _ _)
   | (with_reducible exact ih1 _ _ _ _)
   | (with_reducible exact LeO.refl _)
   | (with_reducible exact LeO.none _)
   | (with_reducible refine LeO.ite ?_ ?_)
   | (with_reducible refine LeO.bind ?_ (fun _ => ?_))
   | exact ih0 _ _ _ _ _
   | exact ih1 _ _ _ _
   | exact LeO.none _
   | refine LeO.ite ?_ ?_
   | refine LeO.bind ?_ (fun _ => ?_)
  ·intro y0 y1 y2 y3
   unfold api_Alarm_85.l1
   repeat' first
   | (with_reducible exact ih0 _ _ _ _ _)
   | (with_reducible exact ih1 _ _ _ _)
   | (with_reducible exact LeO.refl _)
   | (with_reducible exact LeO.none _)
   | (with_reducible refine LeO.ite ?_ ?_)
   | (with_reducible refine LeO.bind ?_ (fun _ => ?_))
   | exact ih0 _ _ _ _ _
   | exact ih1 _ _ _ _
   | exact LeO.none _
   | refine LeO.ite ?_ ?_
   | refine LeO.bind ?_ (fun _ => ?_)
theorem api_Alarm_85.mono : ∀ a0 k, LeO (api_Alarm_85.f k a0) (api_Alarm_85.f (k + 1) a0) := by
 intro a0 k
 obtain ⟨ih0, ih1⟩ := api_Alarm_85.mono_l k
 unfold api_Alarm_85.f
 repeat' first
  | (with_reducible exact ih0 _ _ _ _ _)
  | (with_reducible exact ih1 _ _ _ _)
  | (with_reducible exact LeO.refl _)
  | (with_reducible exact LeO.none _)
  | (with_reducible refine LeO.ite ?_ ?_)
  | (with_reducible refine LeO.bind ?_ (fun _ => ?_))
  | exact ih0 _ _ _ _ _
  | exact ih1 _ _ _ _
  | exact LeO.none _
  | refine LeO.ite ?_ ?_
  | refine LeO.bind ?_ (fun _ => ?_)
set_option maxHeartbeats 8000000 in
set_option maxRecDepth 100000 in
theorem api_Alarm_85.calls (k : Nat) (A0 : Option Addr) (c0 : Nat) (l0 : List (List (S28))) (r : List (S28)) (w : World) (hr0 : Kd.C (Kd.slice 28 k28) w A0 l0.length l0) (hc0 : l0.length ≤ c0) (h : api_Alarm_85.f k l0 = some r) :
 Calls Try.prog 85 #[.slice A0 l0.length c0] w fun e w' => ∃ v0_ : Value, e = .returned (v0_) ∧ Kd.R k28 28 w' w.heap.size (fun _ => True) v0_ r ∧ Below w.heap.size w w' := by
 have HR0 := Aside0.mk hr0
 have HC0 := Aside0.mk hc0
 clear hr0 hc0
 have HB := Aside0.mk (Below.refl w.heap.size w)
 have H : (api_Alarm_85.l0 k l0 0 l0 (l0.length : Int) 0) = some r := h
 clear h
 have H' := Aside0.mk H
 clear H
 go_enter Try.func85, Try.ntmps85
 go_wp2
 go_loopg [3, 11] k (fun kq v3 v11 w' => ∃ (x3_1 : Int) (x11_1 : Int), v3 = .int .i64 x3_1 ∧ v11 = .int .i64 x11_1 ∧ Aside0 (api_Alarm_85.l0 kq l0 x3_1 l0 (l0.length : Int) x11_1 = some r) ∧ Aside0 (kq ≤ k) ∧ Aside0 (Below w.heap.size w w'))
 case atStart => exact ⟨(0), (0), (by first | rfl | (simp; done) | (simp [*]; done)), (by first | rfl | (simp; done) | (simp [*]; done)), H', ⟨Nat.le_refl _⟩, ⟨by repeat (with_reducible first | exact HB.out | apply pw_below_drewN | apply below_drew1)⟩⟩
 case round =>
  clear H'
  obtain ⟨x3_1, x11_1, rfl, rfl, HA, HK1, HB⟩ := hrel
  cases gk with
  | zero => exact absurd HA.out (by simp [api_Alarm_85.l0])
  | succ k1 =>
   have H := HA.out
   clear HA
   simp only [api_Alarm_85.l0] at H
   by_cases c2 : x11_1 < (l0.length : Int)
   ·rw [if_pos c2] at H
    have c2b0 : decide (x11_1 < (l0.length : Int)) = true := decide_eq_true c2
    clear c2
    by_cases c3 : 0 ≤ x11_1
    ·rw [if_pos c3] at H
     have c3b0 : decide (0 ≤ x11_1) = true := decide_eq_true c3
     clear c3
     by_cases c4 : x11_1 < (l0.length : Int)
     ·rw [if_pos c4] at H
      have c4b0 : decide (x11_1 < (l0.length : Int)) = true := decide_eq_true c4
      clear c4
      by_cases c5 : (wrap64 (x3_1 + ((rd_L4 l0 x11_1).length : Int))) < 0
      ·rw [if_pos c5] at H
       exact absurd H (by simp)
      ·rw [if_neg c5] at H
       have c5b0 : decide ((wrap64 (x3_1 + ((rd_L4 l0 x11_1).length : Int))) < 0) = false := decide_eq_false c5
       clear c5
       have H' := Aside0.mk H
       clear H
       have p258 : 0 ≤ (x11_1 : Int) := of_decide_eq_true (by first | (with_reducible assumption) | assumption)
       have q258 : x11_1 < (l0.length : Int) := of_decide_eq_true (by first | (with_reducible assumption) | assumption)
       obtain ⟨ad258, A258_0, c258_0, e258, hx258_0, hl258_0, hi258_0⟩ := at_L4 HR0.out x11_1 p258 q258
       cases e258
       replace hx258_0 := (HB.out.cell (World.block_lt_of_cell? w _ hx258_0)).trans hx258_0
       have HR258_0 := Aside0.mk hi258_0
       have HC258_0 := Aside0.mk hl258_0
       clear hi258_0 hl258_0
       replace p258 := eq_true p258
       replace q258 := eq_true q258
       go_wp2
       go_roundg k1
       case measure => have := HK1.out; omega
       case rel => exact ⟨(wrap64 (x3_1 + ((rd_L4 l0 x11_1).length : Int))), (wrap64 (x11_1 + 1)), (by first | rfl | (simp; done) | (simp [*]; done)), (by first | rfl | (simp; done) | (simp [*]; done)), H', ⟨by have := HK1.out; omega⟩, ⟨by repeat (with_reducible first | exact HB.out | apply pw_below_drewN | apply below_drew1)⟩⟩
     ·rw [if_neg c4] at H
      exact absurd H (by simp)
    ·rw [if_neg c3] at H
     exact absurd H (by simp)
   ·rw [if_neg c2] at H
    have c2b0 : decide (x11_1 < (l0.length : Int)) = false := decide_eq_false c2
    clear c2
    replace H := Option.bind_eq_some_iff.mp H
    obtain ⟨t259, A60, H⟩ := H
    try dsimp only at H
    have A6 := Aside0.mk A60
    clear A60
    have H' := Aside0.mk H
    clear H
    go_wp2_with (first | ((with_reducible refine gate_callee (f := 100) rfl ?_); refine goesL_ (some 24) rfl rfl Try.func100 (by kernel_rfl) rfl #[.slice none 0 0, .int .i64 x3_1] rfl (by (try simp only [List.map_toArray, List.map_cons, List.map_nil]); first | done | rfl | (simp only [List.length_drop, List.length_take]; rfl)) ?_; (refine (api_Alarm_100.calls x3_1 t259 _ A6.out).mono ?_); rintro e w7 ⟨v260, rfl, ho0, hb⟩; refine ⟨_, rfl, ?_⟩; have HO261 := Aside0.mk (Kd.R_lower ho0 (below_size HB.out)); replace HB := Aside0.mk (below_step HB.out hb); (try clear hb); (try clear hb2); (try clear hk); (try clear hi); (try clear ho0)))
    (try simp only [Act.put, List.setIfInBounds_toArray, List.set_cons_zero, List.set_cons_succ])
    go_loopg [6, 27] k1 (fun kq v6 v27 w' => ∃ (x6_2 : List (S28)) (x27_2 : Int), v27 = .int .i64 x27_2 ∧ Aside0 (api_Alarm_85.l1 kq x6_2 l0 (l0.length : Int) x27_2 = some r) ∧ Aside0 (kq ≤ k1) ∧ Aside0 (Kd.R k28 28 w' w.heap.size (fun _ => True) v6 x6_2) ∧ Aside0 (Below w.heap.size w w'))
    case atStart => exact ⟨(t259), (0), (by first | rfl | (simp; done) | (simp [*]; done)), H', ⟨Nat.le_refl _⟩, ⟨by (with_reducible repeat (first | apply Kd.R_alloc | apply Kd.R_drewN | apply Kd.R_drew)); exact HO261.out⟩, ⟨by repeat (with_reducible first | exact HB.out | apply pw_below_drewN | apply below_drew1)⟩⟩
    case round =>
     clear H'
     try clear c1; try clear c2; try clear c2b0; try clear p2; try clear q2; try clear hx2; try clear c3; try clear c3b0; try clear c4; try clear c4b0; try clear c5; try clear c5b0; try clear p6; try clear hx258_0; try clear p258; try clear q258
     obtain ⟨x6_2, x27_2, rfl, HA, HK2, HO_6, HB⟩ := hrel
     cases gk with
     | zero => exact absurd HA.out (by simp [api_Alarm_85.l1])
     | succ k2 =>
      have H := HA.out
      clear HA
      simp only [api_Alarm_85.l1] at H
      by_cases c8 : x27_2 < (l0.length : Int)
      ·rw [if_pos c8] at H
       have c8b0 : decide (x27_2 < (l0.length : Int)) = true := decide_eq_true c8
       clear c8
       by_cases c9 : 0 ≤ x27_2
       ·rw [if_pos c9] at H
        have c9b0 : decide (0 ≤ x27_2) = true := decide_eq_true c9
        clear c9
        by_cases c10 : x27_2 < (l0.length : Int)
        ·rw [if_pos c10] at H
         have c10b0 : decide (x27_2 < (l0.length : Int)) = true := decide_eq_true c10
         clear c10
         by_cases c11 : x6_2.length + (rd_L4 l0 x27_2).length < 2932031007402
         ·rw [if_pos c11] at H
          have LMc11 := Aside0.mk c11
          clear c11
          obtain ⟨y263, hy263⟩ : ∃ y_ : List (S28), y_ = (x6_2 ++ (rd_L4 l0 x27_2)) := ⟨_, rfl⟩
          replace H : (api_Alarm_85.l1 k2 y263 l0 (l0.length : Int) (wrap64 (x27_2 + 1))) = some r := by first | (rw [hy263]; with_reducible exact H) | (have H2_ := (Option.bind_some _ _).symm.trans H; rw [hy263]; with_reducible exact H2_) | (have H2_ := (Option.bind_some _ _).symm.trans H; with_reducible exact H2_) | with_reducible exact H | (rw [hy263]; exact H) | exact H
          have Ny263 := Aside0.mk hy263
          clear hy263
          have H' := Aside0.mk H
          clear H
          have p262 : 0 ≤ (x27_2 : Int) := of_decide_eq_true (by first | (with_reducible assumption) | assumption)
          have q262 : x27_2 < (l0.length : Int) := of_decide_eq_true (by first | (with_reducible assumption) | assumption)
          obtain ⟨ad262, A262_0, c262_0, e262, hx262_0, hl262_0, hi262_0⟩ := at_L4 HR0.out x27_2 p262 q262
          cases e262
          replace hx262_0 := (HB.out.cell (World.block_lt_of_cell? w _ hx262_0)).trans hx262_0
          have HR262_0 := Aside0.mk hi262_0
          have HC262_0 := Aside0.mk hl262_0
          clear hi262_0 hl262_0
          replace p262 := eq_true p262
          replace q262 := eq_true q262
          go_wp2_with (first | ((with_reducible refine gate_builtin (b := .append) (xs := #[.tmp 31, .tmp 32]) rfl ?_); at_builtin; refine Kd.R_append_rows k28 (w0 := w) w.heap.size rfl (.tmp 31) (.tmp 32) 70 28 (.agg #[(.int .i64 0), (.int .i64 0), (.int .i64 0), (.int .i64 0), (.int .i64 0), (.int .i64 0)]) 48 rfl Try.underlying70 info28 rfl (by decide) (by omega) u6 x6_2 (rd_L4 l0 x27_2) _ _ _ (fun _ => True) (fun _ => False) rfl rfl ?aO ?aR (fun _ _ h => h) (fun _ h => h.elim) ?aF ?aB ?aS ?aL ?_; (case aR => repeat (first | exact (Kd.C_below HR262_0.out HB.out) | (with_reducible refine Kd.C_alloc ?_ _) | (with_reducible refine Kd.C_drewN ?_ _) | (with_reducible refine Kd.C_drew ?_))); (case aB => exact HB.out); (case aF => exact (fun _ _ => trivial)); (case aO => exact (HO_6.out)); (case aS => exact (below_size HB.out)); (case aL => have := LMc11.out; omega); intro v264 w12 ho hb hg hat; rw [← Ny263.out] at ho; replace HB := Aside0.mk (hb); have HO265 := Aside0.mk (ho); clear HO_6; clear ho hb hg hat))
          go_roundg k2
          case measure => have := HK1.out; have := HK2.out; omega
          case rel => exact ⟨(y263), (wrap64 (x27_2 + 1)), (by first | rfl | (simp; done) | (simp [*]; done)), H', ⟨by have := HK1.out; have := HK2.out; omega⟩, ⟨by (with_reducible repeat (first | apply Kd.R_alloc | apply Kd.R_drewN | apply Kd.R_drew)); exact HO265.out⟩, ⟨by repeat (with_reducible first | exact HB.out | apply pw_below_drewN | apply below_drew1)⟩⟩
         ·rw [if_neg c11] at H
          exact absurd H (by simp)
        ·rw [if_neg c10] at H
         exact absurd H (by simp)
       ·rw [if_neg c9] at H
        exact absurd H (by simp)
      ·rw [if_neg c8] at H
       have c8b0 : decide (x27_2 < (l0.length : Int)) = false := decide_eq_false c8
       clear c8
       obtain rfl := Option.some.inj H
       go_wp2
       go_ret
       exact ⟨_, by first | rfl | (simp [errW_none, errW_some] <;> rfl) | (simp [*, errW_none, errW_some] <;> rfl), by (with_reducible repeat (first | apply Kd.R_alloc | apply Kd.R_drewN | apply Kd.R_drew)); exact HO_6.out, by repeat (with_reducible first | exact HB.out | apply pw_below_drewN | apply below_drew1)⟩

/-! ### board_alarms_with: function 54 -/
def board_alarms_with.f (k : Nat) (l0 : List (S28)) (a1 : Int) (a2 : Int) (l3 : List (S28)) : Option ((List (S28))) := if 0 ≤ a1 then (if a1 ≤ (l0.length : Int) then (if 0 ≤ (wrap64 (a1 + a2)) then (if (wrap64 (a1 + a2)) ≤ (l0.length : Int) then ((api_Alarm_85.f k (([(l0.take (a1 : Int).toNat), l3, (l0.drop ((wrap64 (a1 + a2)) : Int).toNat)] : List (List (S28))))).bind fun t279 => (some t279)) else (none)) else (none)) else (none)) else (none)
theorem board_alarms_with.mono : ∀ a0 a1 a2 a3 k, LeO (board_alarms_with.f k a0 a1 a2 a3) (board_alarms_with.f (k + 1) a0 a1 a2 a3) := by
 intro a0 a1 a2 a3 k
 unfold board_alarms_with.f
 repeat' first
  | (with_reducible exact api_Alarm_85.mono _ _)
  | (with_reducible exact LeO.refl _)
  | (with_reducible exact LeO.none _)
  | (with_reducible refine LeO.ite ?_ ?_)
  | (with_reducible refine LeO.bind ?_ (fun _ => ?_))
  | exact api_Alarm_85.mono _ _
  | exact LeO.none _
  | refine LeO.ite ?_ ?_
  | refine LeO.bind ?_ (fun _ => ?_)
def board_alarms_with.T1 : Bool × List (List Nat × List Nat) := (true, [([], []), ([], []), ([0, 1], [0, 1]), ([], []), ([], []), ([], []), ([], []), ([5, 6], [5, 6]), ([4, 7], [4, 7]), ([2, 3, 8], [2, 3, 8]), ([9], [9]), ([10, 10, 0, 1, 2, 3, 4, 5, 6, 7, 8, 9, 10], [10])])
def board_alarms_with.B1 : List Nat := [0, 0, 3, 0, 0, 0, 0, 96, 240, 511, 1023, 2047]
theorem board_alarms_with.tab1 : rtab .any (opsOf Try.f54 1) = board_alarms_with.T1 := by kernel_rfl
theorem board_alarms_with.bits1 : waitsOk board_alarms_with.T1.2 board_alarms_with.B1 = true := by kernel_rfl
set_option maxHeartbeats 8000000 in
set_option maxRecDepth 100000 in
theorem board_alarms_with.calls (k : Nat) (P0_ : Nat → Prop) (A0 : Option Addr) (c0 : Nat) (l0 : List (S28)) (a1 : Int) (a2 : Int) (P3_ : Nat → Prop) (A3 : Option Addr) (c3 : Nat) (l3 : List (S28)) (r : List (S28)) (w : World) (hs0 : Kd.V k28 28 w w.heap.size (fun k_ => P0_ k_) (.slice A0 l0.length c0) l0) (hs3 : Kd.V k28 28 w w.heap.size (fun k_ => P3_ k_) (.slice A3 l3.length c3) l3) (h : board_alarms_with.f k l0 a1 a2 l3 = some r) :
 Calls Try.prog 54 #[.slice A0 l0.length c0, .int .i64 a1, .int .i64 a2, .slice A3 l3.length c3] w fun e w' => ∃ v0_ : Value, e = .returned (v0_) ∧ Kd.R k28 28 w' w.heap.size (fun k_ => (w.heap.size ≤ k_)) v0_ r ∧ Below w.heap.size w w' := by
 have HO0 := Aside0.mk (show Kd.V k28 28 w w.heap.size (fun k_ => ((P0_ k_ ∨ P3_ k_) ∨ w.heap.size ≤ k_)) (.slice A0 l0.length c0) l0 from Kd.V_mono hs0 (fun k_ hk => .inl (.inl hk)))
 have HO3 := Aside0.mk (show Kd.V k28 28 w w.heap.size (fun k_ => ((P0_ k_ ∨ P3_ k_) ∨ w.heap.size ≤ k_)) (.slice A3 l3.length c3) l3 from Kd.V_mono hs3 (fun k_ hk => .inl (.inr hk)))
 have HB := Aside0.mk (Below.refl w.heap.size w)
 have H : (if 0 ≤ a1 then (if a1 ≤ (l0.length : Int) then (if 0 ≤ (wrap64 (a1 + a2)) then (if (wrap64 (a1 + a2)) ≤ (l0.length : Int) then ((api_Alarm_85.f k (([(l0.take (a1 : Int).toNat), l3, (l0.drop ((wrap64 (a1 + a2)) : Int).toNat)] : List (List (S28))))).bind fun t279 => (some t279)) else (none)) else (none)) else (none)) else (none)) = some r := h
 clear h
 by_cases c5 : 0 ≤ a1
 ·rw [if_pos c5] at H
  have c5b0 := eq_true c5
  have c5b1 : decide (0 ≤ a1) = true := decide_eq_true c5
  clear c5
  by_cases c6 : a1 ≤ (l0.length : Int)
  ·rw [if_pos c6] at H
   have c6b0 := eq_true c6
   have c6b1 : decide (a1 ≤ (l0.length : Int)) = true := decide_eq_true c6
   clear c6
   obtain ⟨y266, hy266⟩ : ∃ y_ : List (S28), y_ = (l0.take (a1 : Int).toNat) := ⟨_, rfl⟩
   replace H : (if 0 ≤ (wrap64 (a1 + a2)) then (if (wrap64 (a1 + a2)) ≤ (l0.length : Int) then ((api_Alarm_85.f k (([y266, l3, (l0.drop ((wrap64 (a1 + a2)) : Int).toNat)] : List (List (S28))))).bind fun t279 => (some t279)) else (none)) else (none)) = some r := by first | (rw [hy266]; with_reducible exact H) | (have H2_ := (Option.bind_some _ _).symm.trans H; rw [hy266]; with_reducible exact H2_) | (have H2_ := (Option.bind_some _ _).symm.trans H; with_reducible exact H2_) | with_reducible exact H | (rw [hy266]; exact H) | exact H
   have Ny266 := Aside0.mk hy266
   clear hy266
   obtain ⟨ji7, hji7⟩ : ∃ j_ : Int, (wrap64 (a1 + a2)) = j_ := ⟨_, rfl⟩
   replace H : (if 0 ≤ (ji7) then (if (ji7) ≤ (l0.length : Int) then ((api_Alarm_85.f k (([y266, l3, (l0.drop ((ji7) : Int).toNat)] : List (List (S28))))).bind fun t279 => (some t279)) else (none)) else (none)) = some r := by first | (rw [hji7] at H; exact H) | (simp only [hji7] at H ⊢; exact H)
   have hji7w : (IntKind.i64.wrap (a1 + a2)) = ji7 := (i64_w _).trans hji7
   by_cases c8 : 0 ≤ (ji7)
   ·rw [if_pos c8] at H
    have c8b0 := eq_true c8
    have c8b1 : decide (0 ≤ (ji7)) = true := decide_eq_true c8
    clear c8
    by_cases c9 : (ji7) ≤ (l0.length : Int)
    ·rw [if_pos c9] at H
     have c9b0 := eq_true c9
     have c9b1 : decide ((ji7) ≤ (l0.length : Int)) = true := decide_eq_true c9
     clear c9
     obtain ⟨y271, hy271⟩ : ∃ y_ : List (S28), y_ = (l0.drop ((ji7) : Int).toNat) := ⟨_, rfl⟩
     replace H : ((api_Alarm_85.f k (([y266, l3, y271] : List (List (S28))))).bind fun t279 => (some t279)) = some r := by first | (rw [hy271]; with_reducible exact H) | (have H2_ := (Option.bind_some _ _).symm.trans H; rw [hy271]; with_reducible exact H2_) | (have H2_ := (Option.bind_some _ _).symm.trans H; with_reducible exact H2_) | with_reducible exact H | (rw [hy271]; exact H) | exact H
     have Ny271 := Aside0.mk hy271
     clear hy271
     obtain ⟨y276, hy276⟩ : ∃ y_ : List (List (S28)), y_ = (([y266, l3, y271] : List (List (S28)))) := ⟨_, rfl⟩
     replace H : ((api_Alarm_85.f k y276).bind fun t279 => (some t279)) = some r := by first | (rw [hy276]; with_reducible exact H) | (have H2_ := (Option.bind_some _ _).symm.trans H; rw [hy276]; with_reducible exact H2_) | (have H2_ := (Option.bind_some _ _).symm.trans H; with_reducible exact H2_) | with_reducible exact H | (rw [hy276]; exact H) | exact H
     have Ny276 := Aside0.mk hy276
     clear hy276
     replace H := Option.bind_eq_some_iff.mp H
     obtain ⟨t279, A100, H⟩ := H
     try dsimp only at H
     have A10 := Aside0.mk A100
     clear A100
     obtain rfl := Option.some.inj H
     go_enter Try.func54, Try.ntmps54
     try go_wp2
     replace HO0 := Aside0.mk (Kd.V_drew HO0.out)
     replace HO3 := Aside0.mk (Kd.V_drew HO3.out)
     replace HB := Aside0.mk (below_drew1 HB.out)
     have q12 : (a1 : Int) ≤ ((l0.length : Int) : Int) := of_decide_eq_true (by first | (with_reducible assumption) | assumption)
     obtain ⟨i012, hi012, _, hsz12, _⟩ := info_parts info28
     have hroom12 : l0.length ≤ c0 := (Kd.V_reads' HO0.out).2.1
     have hC12 : Kd.F k28 _ _ A0 l0.length l0 := (Kd.V_at (base := w.heap.size) HO0.out).2.2
     have hcut12 := cut_to (P := Try.prog) 70 28 .i64 Try.underlying70 hi012 A0 l0.length c0 a1 (of_decide_eq_true (by first | (with_reducible assumption) | assumption)) q12 hroom12
     have hr12 := Kd.F_take (m := (a1 : Int).toNat) hC12 (by omega)
     have hy12 : y266.length = (a1 : Int).toNat := (by rw [Ny266.out, List.length_take]; omega)
     rw [← Ny266.out] at hr12
     rw [← hy12] at hcut12
     have HO270 := Aside0.mk (show Kd.V k28 28 _ w.heap.size _ (.slice A0 y266.length c0) y266 from Kd.V_mk (by omega) hr12)
     have HC270 := Aside0.mk (show y266.length ≤ c0 from by omega)
     clear hr12 hC12 hroom12 hi012 hsz12
     have KY12 := Aside0.mk hy12
     clear hy12
     replace q12 := eq_true q12
     have q13 : ((ji7) : Int) ≤ ((l0.length : Int) : Int) := of_decide_eq_true (by first | (with_reducible assumption) | assumption)
     obtain ⟨i013, hi013, _, hsz13, _⟩ := info_parts info28
     have hroom13 : l0.length ≤ c0 := (Kd.V_reads' HO0.out).2.1
     have hC13 : Kd.F k28 _ _ A0 l0.length l0 := (Kd.V_at (base := w.heap.size) HO0.out).2.2
     have q013 : (0 : Int) ≤ ((ji7) : Int) := of_decide_eq_true (by first | (with_reducible assumption) | assumption)
     have hcut13 := cut_from (P := Try.prog) 70 28 .i64 Try.underlying70 hi013 6 hsz13 A0 l0.length c0 (ji7) q013 q13
     have hr13 := Kd.F_cut (m := ((ji7) : Int).toNat) (c := c0) hC13 (by omega) hroom13
     obtain ⟨A13, hA13⟩ : ∃ A1, A1 = (if c0 = ((ji7) : Int).toNat then A0 else (A0 : Option Addr).map (·.add (((ji7) : Int).toNat * 6))) := ⟨_, rfl⟩
     obtain ⟨c13, hc13⟩ : ∃ c1, c1 = c0 - ((ji7) : Int).toNat := ⟨_, rfl⟩
     have hy13 : y271.length = l0.length - ((ji7) : Int).toNat := (by rw [Ny271.out, List.length_drop] <;> omega)
     rw [show (l0).drop ((ji7) : Int).toNat = y271 from Ny271.out.symm] at hr13
     replace hr13 : Kd.F k28 _ _ A13 y271.length y271 := (by rw [hA13]; exact hr13)
     rw [← hy13, ← hA13, ← hc13] at hcut13
     have HO275 := Aside0.mk (show Kd.V k28 28 _ w.heap.size _ (.slice A13 y271.length c13) y271 from Kd.V_mk (by rw [hy13, hc13]; exact Nat.sub_le_sub_right hroom13 _) hr13)
     have HC275 := Aside0.mk (show y271.length ≤ c13 from by rw [hy13, hc13]; exact Nat.sub_le_sub_right hroom13 _)
     clear hr13 hC13 hroom13 hi013 hsz13 hc13
     have KY13 := Aside0.mk hy13
     have KA13 := Aside0.mk hA13
     clear hy13 hA13
     replace q13 := eq_true q13
     refine start_ (n := 12) (S := fun w' => True) (ds := []) #[false, false, false, false, false, false, false, false, false, false, false, false] (by kernel_rfl) rfl rfl trivial (fun hHeld => ?_); refine with_tabW board_alarms_with.tab1 board_alarms_with.bits1 (fun HT_ HW_ => ?_)
     generalize w.drew = w11 at HO0 HO3 HB HO270 HO275 hHeld ⊢
     have Q_ := Qs.mk (n := 12) [(0, 0, 9, 1), (0, 1, 10, 3), (0, 2, 11, 7), (0, 3, 12, 15), (0, 4, 13, 31), (0, 5, 14, 63), (0, 6, 15, 127), (0, 7, 16, 255), (0, 8, 17, 511)]
     iterate 9 (first | (obtain ⟨q_, Q_⟩ := Qs.p Q_; refine pureQ_ q_ (v := ?_) (a' := ?_) rfl rfl (any_of HT_.out (by kernel_rfl)) (fun _ _ _ h => h) (Or.inl ⟨by rfl, ?_⟩) ?_ ?_; rotate_left; (intro w'; go_simp; with_reducible rfl); rotate_left; (simp only [Act.put, List.setIfInBounds_toArray, List.set_cons_zero, List.set_cons_succ, i64_w, i32_w]; rfl)))
     clear Q_
     refine one_ (i := 9) (N := some 18) (dn_ 10 12) rfl rfl (one_of HT_.out (by kernel_rfl)) (by decide) (fun K hK => ?_)
     refine Kd.N_lit_step (Kd.slice 28 k28) _ 70 ?hg (N' := 18) ?hd (xs := ([y266, l3, y271] : List (List (S28)))) (inner := [.slice A0 y266.length c0, .slice A3 l3.length c3, .slice A13 y271.length c13]) (ok := (fun k_ => ((P0_ k_ ∨ P3_ k_) ∨ w.heap.size ≤ k_))) (okp := (fun k_ => ((P0_ k_ ∨ P3_ k_) ∨ w.heap.size ≤ k_))) ?hr ?hp (fun _ hk => hk) ((show ∀ k_, w11.heap.size ≤ k_ → (fun k_ => ((P0_ k_ ∨ P3_ k_) ∨ w.heap.size ≤ k_)) k_ from fun k_ hk => (.inr (Nat.le_trans (below_size HB.out) hk))) _ (Nat.le_refl _)) (Below.refl _ _) (Nat.le_refl _) (by simp) ?_; (case hd => rfl); (case hg => rfl); (case hr => first | (go_simp; done) | (go_simp; rfl)); (case hp => exact (Reps.one (show Kd.FK (Kd.slice 28 k28) _ _ y266 [.slice A0 y266.length c0] from (Kd.FK_slice_mk (Kd.V_reads' (Kd.V_mono (ok' := (fun k_ => ((P0_ k_ ∨ P3_ k_) ∨ w.heap.size ≤ k_))) (HO270.out) (fun k_ hk => hk))).2.1 (Kd.V_F (Kd.V_mono (ok' := (fun k_ => ((P0_ k_ ∨ P3_ k_) ∨ w.heap.size ≤ k_))) (HO270.out) (fun k_ hk => hk))))) (Reps.one (show Kd.FK (Kd.slice 28 k28) _ _ l3 [.slice A3 l3.length c3] from (Kd.FK_slice_mk (Kd.V_reads' (Kd.V_mono (ok' := (fun k_ => ((P0_ k_ ∨ P3_ k_) ∨ w.heap.size ≤ k_))) (HO3.out) (fun k_ hk => hk))).2.1 (Kd.V_F (Kd.V_mono (ok' := (fun k_ => ((P0_ k_ ∨ P3_ k_) ∨ w.heap.size ≤ k_))) (HO3.out) (fun k_ hk => hk))))) (Reps.one (show Kd.FK (Kd.slice 28 k28) _ _ y271 [.slice A13 y271.length c13] from (Kd.FK_slice_mk (Kd.V_reads' (Kd.V_mono (ok' := (fun k_ => ((P0_ k_ ∨ P3_ k_) ∨ w.heap.size ≤ k_))) (HO275.out) (fun k_ hk => hk))).2.1 (Kd.V_F (Kd.V_mono (ok' := (fun k_ => ((P0_ k_ ∨ P3_ k_) ∨ w.heap.size ≤ k_))) (HO275.out) (fun k_ hk => hk))))) (Reps.none _ _)))))
     intro v277 w14 ho15 hb hg_ hnew_
     clear hg_ hnew_
     (first | rw [← Ny276.out] at ho15 | (simp only [Int.reduceToNat] at ho15; rw [← Ny276.out] at ho15))
     replace HO0 := Aside0.mk (Kd.V_elder' (HO0.out) (Kd.N_base ho15) hb)
     replace HO3 := Aside0.mk (Kd.V_elder' (HO3.out) (Kd.N_base ho15) hb)
     replace HO270 := Aside0.mk (Kd.V_elder' (HO270.out) (Kd.N_base ho15) hb)
     replace HO275 := Aside0.mk (Kd.V_elder' (HO275.out) (Kd.N_base ho15) hb)
     have HO278 := Aside0.mk (Kd.N_lower ho15 (below_size HB.out))
     replace HB := Aside0.mk (below_step HB.out hb)
     clear hb ho15
     obtain ⟨Ao16, co16, eo16⟩ := Kd.N_slice HO278.out
     (first | subst eo16 | (injection eo16 with f1_ f2_ f3_; have f4_ := f1_.symm; have f5_ := f3_.symm; clear f1_ f2_ f3_; subst f4_; subst f5_))
     refine hK.out _ _ trivial (fun hHeld => ?_)
     clear hK K
     refine norm_ (a' := ?_) ?_ ?_
     rotate_left
     ·show Act.put _ (some 18) _ = _
      simp only [Act.put, List.setIfInBounds_toArray, List.set_cons_zero, List.set_cons_succ, i64_w, i32_w]
      rfl
     refine one_ (i := 10) (N := some 19) (dn_ 11 12) rfl rfl (one_of HT_.out (by kernel_rfl)) (by decide) (fun K hK => ?_)
     refine goes_ Try.func85 (by kernel_rfl) rfl #[.slice Ao16 y276.length co16] (by rfl) rfl rfl (by (try simp only [List.map_toArray, List.map_cons, List.map_nil]); first | done | rfl | (simp only [List.length_drop, List.length_take]; rfl)) ?_
     with_reducible refine (api_Alarm_85.calls k _ _ y276 t279 _ ?side1 ?side2 A10.out).mono ?_
     (case side1 => repeat (first | exact (Kd.N_reads' HO278.out).2.2 | (with_reducible refine Kd.C_alloc ?_ _) | (with_reducible refine Kd.C_drewN ?_ _) | (with_reducible refine Kd.C_drew ?_)))
     (case side2 => exact (Kd.N_reads' HO278.out).2.1)
     rintro e w17 ⟨v280, rfl, ho0, hb⟩
     refine ⟨_, rfl, ?_⟩
     replace HO0 := Aside0.mk (Kd.V_elder' (HO0.out) (Kd.R_base ho0) hb)
     replace HO3 := Aside0.mk (Kd.V_elder' (HO3.out) (Kd.R_base ho0) hb)
     replace HO270 := Aside0.mk (Kd.V_elder' (HO270.out) (Kd.R_base ho0) hb)
     replace HO275 := Aside0.mk (Kd.V_elder' (HO275.out) (Kd.R_base ho0) hb)
     replace HO278 := Aside0.mk (Kd.N_elder' (HO278.out) (Kd.R_base ho0) hb)
     have HO281 := Aside0.mk (Kd.R_lower (Kd.R_newM (M := fun k_ => (w.heap.size ≤ k_)) ho0 (below_size HB.out) (fun k_ h_ => h_)) (below_size HB.out))
     replace HB := Aside0.mk (below_step HB.out hb)
     (try clear hb)
     (try clear hb2)
     (try clear hk)
     (try clear hi)
     (try clear ho0)
     refine hK.out _ _ trivial (fun hHeld => ?_)
     clear hK K
     refine norm_ (a' := ?_) ?_ ?_
     rotate_left
     ·show Act.put _ (some 19) _ = _
      simp only [Act.put, List.setIfInBounds_toArray, List.set_cons_zero, List.set_cons_succ, i64_w, i32_w]
      rfl
     refine pure_ (i := 11) (N := some 8) (v := ?_) (a' := ?_) #[true, true, true, true, true, true, true, true, true, true, true, true] rfl rfl (any_of HT_.out (by kernel_rfl)) (fun _ _ _ h => h) (Or.inl ⟨by rfl, ?_⟩) ?_ ?_
     rotate_left
     ·intro w'
      go_simp
      with_reducible rfl
     rotate_left; (simp only [Act.put, List.setIfInBounds_toArray, List.set_cons_zero, List.set_cons_succ, i64_w, i32_w]; rfl)
     refine done_ (done_of HT_.out (by kernel_rfl)) ?_
     try go_wp2
     go_ret
     exact ⟨_, by first | rfl | (simp [errW_none, errW_some] <;> rfl) | (simp only [← hji7]; first | rfl | (simp [errW_none, errW_some] <;> rfl)) | (simp [*, errW_none, errW_some] <;> rfl), by (with_reducible repeat (first | apply Kd.R_alloc | apply Kd.R_drewN | apply Kd.R_drew)); exact Kd.R_mono HO281.out (fun _ hk => hk.1), by repeat (with_reducible first | exact HB.out | apply pw_below_drewN | apply below_drew1)⟩
    ·rw [if_neg c9] at H
     exact absurd H (by simp)
   ·rw [if_neg c8] at H
    exact absurd H (by simp)
  ·rw [if_neg c6] at H
   exact absurd H (by simp)
 ·rw [if_neg c5] at H
  exact absurd H (by simp)

end Go.Proofs.Ytcfpbmdndapeaaa.F
