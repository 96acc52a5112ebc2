-- Written by a program of this session (xprint.py), out of the translation and of contracts proved by hand.
import Derived.Test.YtcfpbmdndapeaaaF0
import Derived.Test.YtcfpbmdndapeaaaF3
import Derived.Test.YtcfpbmdndapeaaaF5
namespace Go.Proofs.Ytcfpbmdndapeaaa.F
open Go.RowKit Go.Proofs.YtcfpbmdndapeaaaV.PrintWords Go.Proofs.YtcfpbmdndapeaaaV.PrintLast Go.Proofs.YtcfpbmdndapeaaaV.PrintMore
attribute [local go_sem] max2_int min2_int max_two min_two max_three min_three max_four min_four   -- for this text's walks alone
set_option linter.unusedVariables false
set_option linter.unusedSimpArgs false

/-! ### life_is: function 102 -/
def life_is.f (a0 : Int) : Option (Bool) := if a0 ≥ 0 then (some (decide (a0 < 5))) else (some false)
set_option maxHeartbeats 8000000 in
set_option maxRecDepth 100000 in
theorem life_is.calls (a0 : Int) (r : Bool) (w : World) (h : life_is.f a0 = some r) :
  Calls Try.prog 102 #[.int .i64 a0] w fun e w' => e = .returned (.bool r) ∧ Drawn0 w w' := by
 have H : (if a0 ≥ 0 then (some (decide (a0 < 5))) else (some false)) = some r := h
 clear h
 by_cases c2 : a0 ≥ 0
 ·rw [if_pos c2] at H
  have c2b0 : decide (0 ≤ a0) = true := decide_eq_true c2
  clear c2
  obtain rfl := Option.some.inj H
  go_enter Try.func102, Try.ntmps102
  go_wp2
  go_ret
  exact ⟨by first | rfl | (simp; done) | (simp [*]; done), by repeat (first | exact Drawn0.refl _ | apply Drawn0.step)⟩
 ·rw [if_neg c2] at H
  have c2b0 : decide (0 ≤ a0) = false := decide_eq_false c2
  clear c2
  obtain rfl := Option.some.inj H
  go_enter Try.func102, Try.ntmps102
  go_wp2
  go_ret
  exact ⟨by first | rfl | (simp; done) | (simp [*]; done), by repeat (first | exact Drawn0.refl _ | apply Drawn0.step)⟩

/-! ### life_table: function 103 -/
def life_rows : List (List Int) := [[-1, 1, -1, -1, -1, -1, -1], [-1, 1, 2, 3, 4, 0, -1], [-1, 2, -1, 3, 4, 0, -1], [-1, 1, -1, -1, 4, 0, -1], [-1, 4, -1, 3, -1, 0, 1]]
def life_tab (p d : Int) : Int := (life_rows.getD p.toNat []).getD d.toNat (-1)
def life_row (p : Int) : Value := .agg ((life_rows.getD p.toNat []).map (Value.int .i64)).toArray
def life_all : Value := .agg #[.int .i64 (-1), .int .i64 1, .int .i64 (-1), .int .i64 (-1), .int .i64 (-1), .int .i64 (-1), .int .i64 (-1), .int .i64 (-1), .int .i64 1, .int .i64 2, .int .i64 3, .int .i64 4, .int .i64 0, .int .i64 (-1), .int .i64 (-1), .int .i64 2, .int .i64 (-1), .int .i64 3, .int .i64 4, .int .i64 0, .int .i64 (-1), .int .i64 (-1), .int .i64 1, .int .i64 (-1), .int .i64 (-1), .int .i64 4, .int .i64 0, .int .i64 (-1), .int .i64 (-1), .int .i64 4, .int .i64 (-1), .int .i64 3, .int .i64 (-1), .int .i64 0, .int .i64 1]
theorem life_idx (p : Int) (h0 : 0 ≤ p) (h1 : p < 5) (w : World) : (Instr.index 126 life_all (.int .i64 p)).run Try.prog w = .ok (life_row p) w := by
  have hc : p = 0 ∨ p = 1 ∨ p = 2 ∨ p = 3 ∨ p = 4 := by omega
  clear h0 h1
  rcases hc with rfl | rfl | rfl | rfl | rfl <;> (show (Instr.index _ _ _).run _ _ = _; kernel_rfl)
theorem life_idx2 (p d : Int) (h0 : 0 ≤ p) (h1 : p < 5) (h2 : 1 ≤ d) (h3 : d < 7) (w : World) : (Instr.index 125 (life_row p) (.int .i64 d)).run Try.prog w = .ok (.int .i64 (life_tab p d)) w := by
  have hc : p = 0 ∨ p = 1 ∨ p = 2 ∨ p = 3 ∨ p = 4 := by omega
  have hd : d = 1 ∨ d = 2 ∨ d = 3 ∨ d = 4 ∨ d = 5 ∨ d = 6 := by omega
  rcases hc with rfl | rfl | rfl | rfl | rfl <;> rcases hd with rfl | rfl | rfl | rfl | rfl | rfl <;> (show (Instr.index _ _ _).run _ _ = _; kernel_rfl)
def life_zero : Array Value := #[.int .i64 0, .int .i64 0, .int .i64 0, .int .i64 0, .int .i64 0, .int .i64 0, .int .i64 0, .int .i64 0, .int .i64 0, .int .i64 0, .int .i64 0, .int .i64 0, .int .i64 0, .int .i64 0, .int .i64 0, .int .i64 0, .int .i64 0, .int .i64 0, .int .i64 0, .int .i64 0, .int .i64 0, .int .i64 0, .int .i64 0, .int .i64 0, .int .i64 0, .int .i64 0, .int .i64 0, .int .i64 0, .int .i64 0, .int .i64 0, .int .i64 0, .int .i64 0, .int .i64 0, .int .i64 0, .int .i64 0]
set_option maxHeartbeats 8000000 in
set_option maxRecDepth 100000 in
theorem life_table.calls (w : World) :
    Calls Try.prog 103 #[] w fun e w' => e = .returned life_all ∧ Below w.heap.size w w' := by
  go_enter Try.func103, Try.ntmps103
  go_wp2_with (refine wpList_store_row rfl 126 _ _ rfl w.heap.size life_all.cells rfl rfl 126 life_zero (heap_alloc_last w _) (by kernel_rfl) (by kernel_rfl) (by kernel_rfl) ?_)
  rw [World.setRow_alloc_new]
  go_wp2
  exact bodyPost_ret (v := life_all) (results_cell_row rfl _ _ w.heap.size 126 life_all.cells (0, 0) _ rfl (heap_alloc_last w _) Try.underlying126 rfl (by kernel_rfl)) rfl ⟨rfl, (Below.refl _ _).alloc (Nat.le_refl _) _⟩

/-! ### life_Next: function 95 -/
def life_Next.f (a0 : Int) (a1 : Int) : Option (Int × Bool) := if 0 ≤ a0 then if a0 < 5 then if a1 < 1 then some (0, false) else if a1 ≥ 7 then some (0, false) else if life_tab a0 a1 = -1 then some (0, false) else some (life_tab a0 a1, true) else some (0, false) else some (0, false)
theorem life_is_any (a0 : Int) (w : World) : Calls Try.prog 102 #[.int .i64 a0] w fun e w' => e = .returned (.bool (decide (0 ≤ a0 ∧ a0 < 5))) ∧ Drawn0 w w' := by
  refine life_is.calls a0 _ w ?_
  unfold life_is.f
  by_cases h : 0 ≤ a0
  · rw [if_pos h]; simp [h]
  · rw [if_neg h]; simp [h]
set_option maxHeartbeats 8000000 in
set_option maxRecDepth 100000 in
theorem life_Next.calls (a0 : Int) (a1 : Int) (r1 : Int) (r2 : Bool) (w : World) (h : life_Next.f a0 a1 = some (r1, r2)) :
    Calls Try.prog 95 #[.int .i64 a0, .int .i64 a1] w fun e w' => e = .returned (.tuple #[.int .i64 r1, .bool r2]) ∧ Below w.heap.size w w' := by
  unfold life_Next.f at h
  by_cases hp : 0 ≤ a0 ∧ a0 < 5
  · rw [if_pos hp.1, if_pos hp.2] at h
    have hi : ∀ w, Calls Try.prog 102 #[.int .i64 a0] w fun e w' => e = .returned (.bool true) ∧ Drawn0 w w' := fun w => by
      have := life_is_any a0 w; rw [decide_eq_true hp] at this; exact this
    have Hi := Aside0.mk hi; clear hi
    by_cases c1 : a1 < 1
    · rw [if_pos c1] at h; cases h
      have b1 : decide (a1 < 1) = true := decide_eq_true c1
      clear c1 hp
      go_enter Try.func95, Try.ntmps95
      go_wp2_with (go_at_call 102; refine (Hi.out _).mono ?_; rintro e w' ⟨rfl, ⟨n, rfl⟩⟩)
      go_ret2
      exact ⟨rfl, by repeat (first | exact Below.refl _ _ | apply pw_below_drewN)⟩
    · rw [if_neg c1] at h
      have b1 : decide (a1 < 1) = false := decide_eq_false c1
      by_cases c2 : a1 ≥ 7
      · rw [if_pos c2] at h; cases h
        have b2 : decide (7 ≤ a1) = true := decide_eq_true c2
        clear c1 c2 hp
        go_enter Try.func95, Try.ntmps95
        go_wp2_with (go_at_call 102; refine (Hi.out _).mono ?_; rintro e w' ⟨rfl, ⟨n, rfl⟩⟩)
        go_ret2
        exact ⟨rfl, by repeat (first | exact Below.refl _ _ | apply pw_below_drewN)⟩
      · rw [if_neg c2] at h
        have b2 : decide (7 ≤ a1) = false := decide_eq_false c2
        have x1 := life_idx a0 hp.1 hp.2
        have x2 := life_idx2 a0 a1 hp.1 hp.2 (by omega) (by omega)
        have ht := fun w => life_table.calls w
        have Ht := Aside0.mk ht; clear ht
        generalize life_row a0 = row at x1 x2
        generalize life_tab a0 a1 = t at x2 h
        by_cases c3 : t = -1
        · rw [if_pos c3] at h; cases h
          have b3 : (t != -1) = false := by simp [c3]
          subst c3
          clear c1 c2 hp
          go_enter Try.func95, Try.ntmps95
          go_wp2_with (first | (go_at_call 102; refine (Hi.out _).mono ?_; rintro e w' ⟨rfl, ⟨n, rfl⟩⟩) | (go_at_call 103; refine (Ht.out _).mono ?_; rintro e w' ⟨rfl, hb⟩))
          go_ret2
          exact ⟨rfl, below_then (pw_below_drewN (Below.refl _ _) _) (Nat.le_refl _) hb⟩
        · rw [if_neg c3] at h; cases h
          have b3 : (r1 != -1) = true := by simp [c3]
          clear c1 c2 c3 hp
          go_enter Try.func95, Try.ntmps95
          go_wp2_with (first | (go_at_call 102; refine (Hi.out _).mono ?_; rintro e w' ⟨rfl, ⟨n, rfl⟩⟩) | (go_at_call 103; refine (Ht.out _).mono ?_; rintro e w' ⟨rfl, hb⟩))
          go_ret2
          exact ⟨rfl, below_then (pw_below_drewN (Below.refl _ _) _) (Nat.le_refl _) hb⟩
  · have h' : (if 0 ≤ a0 then if a0 < 5 then if a1 < 1 then some ((0 : Int), false) else if a1 ≥ 7 then some (0, false) else if life_tab a0 a1 = -1 then some (0, false) else some (life_tab a0 a1, true) else some (0, false) else some (0, false)) = some (0, false) := by
      by_cases q : 0 ≤ a0
      · rw [if_pos q, if_neg (fun q2 => hp ⟨q, q2⟩)]
      · rw [if_neg q]
    rw [h'] at h; cases h
    have hi : ∀ w, Calls Try.prog 102 #[.int .i64 a0] w fun e w' => e = .returned (.bool false) ∧ Drawn0 w w' := fun w => by
      have := life_is_any a0 w; rw [decide_eq_false hp] at this; exact this
    have Hi := Aside0.mk hi; clear hi hp h'
    go_enter Try.func95, Try.ntmps95
    go_wp2_with (go_at_call 102; refine (Hi.out _).mono ?_; rintro e w' ⟨rfl, ⟨n, rfl⟩⟩)
    go_ret2
    exact ⟨rfl, by repeat (first | exact Below.refl _ _ | apply pw_below_drewN)⟩

/-! ### alarm_clock_turned: function 90 -/
def alarm_clock_turned.f (a0_0 : Int) (a0_1 : Int) (a0_2 : Int) (a0_3 : Int) (a0_4 : Int) (a0_5 : Int) (a1 : Int) (a2 : Int) (a3 : Int) : Option (Int × Int × Int × Int × Int × Int) := (life_Next.f a0_2 a1).bind fun bt131 => (some (a0_0, a0_1, bt131.1, a0_3, a0_4, wrap64 (a2 + a3)))
set_option maxHeartbeats 8000000 in
set_option maxRecDepth 100000 in
theorem alarm_clock_turned.calls (a0_0 : Int) (a0_1 : Int) (a0_2 : Int) (a0_3 : Int) (a0_4 : Int) (a0_5 : Int) (a1 : Int) (a2 : Int) (a3 : Int) (r1 : Int) (r2 : Int) (r3 : Int) (r4 : Int) (r5 : Int) (r6 : Int) (w : World) (h : alarm_clock_turned.f a0_0 a0_1 a0_2 a0_3 a0_4 a0_5 a1 a2 a3 = some (r1, r2, r3, r4, r5, r6)) :
  Calls Try.prog 90 #[.agg #[.int .i64 a0_0, .int .i64 a0_1, .int .i64 a0_2, .int .i64 a0_3, .int .i64 a0_4, .int .i64 a0_5], .int .i64 a1, .int .i64 a2, .int .i64 a3] w fun e w' => e = .returned (.agg #[.int .i64 r1, .int .i64 r2, .int .i64 r3, .int .i64 r4, .int .i64 r5, .int .i64 r6]) ∧ Below w.heap.size w w' := by
 have hu85 := Try.underlying85
 have HB := Aside0.mk (Below.refl w.heap.size w)
 have H : ((life_Next.f a0_2 a1).bind fun bt131 => (some (a0_0, a0_1, bt131.1, a0_3, a0_4, wrap64 (a2 + a3)))) = some (r1, r2, r3, r4, r5, r6) := h
 clear h
 replace H := Option.bind_eq_some_iff.mp H
 obtain ⟨⟨t131, t132⟩, A50, H⟩ := H
 try dsimp only at H
 have A5 := Aside0.mk A50
 clear A50
 simp only [Option.some.injEq, Prod.mk.injEq] at H
 obtain ⟨rfl, rfl, rfl, rfl, rfl, rfl⟩ := H
 go_enter Try.func90, Try.ntmps90
 go_wp2_with (first | ((with_reducible refine gate_dst (N := 4) rfl ?_); refine box_event ?hg (N := 4) ?hd (cs := #[.int .i64 a0_0, .int .i64 a0_1, .int .i64 a0_2, .int .i64 a0_3, .int .i64 a0_4, .int .i64 a0_5]) (t := 85) ?hr ?_; (case hd => rfl); (case hg => rfl); (case hr => first | (go_simp; done) | (go_simp; rfl)); intro gb129 hg w6 hbox hb; have BK129 := Aside0.mk (hbox); have GW129 := Aside0.mk ((by rw [hg]; exact (below_size HB.out) : w.heap.size ≤ gb129)); have GE129 := Aside0.mk ((by rw [hg]; exact (below_size HB.out) : w.heap.size ≤ gb129)); replace HB := Aside0.mk (below_step HB.out hb); clear hb hbox hg) | ((with_reducible refine gate_dst (N := 8) rfl ?_); refine box_event ?hg (N := 8) ?hd (cs := #[.int .i64 0, .int .i64 0, .int .i64 0, .int .i64 0, .int .i64 0, .int .i64 0]) (t := 85) ?hr ?_; (case hd => rfl); (case hg => rfl); (case hr => first | (go_simp; done) | (go_simp; rfl)); intro gb130 hg w7 hbox hb; have BK130 := Aside0.mk (hbox); have GW130 := Aside0.mk ((by rw [hg]; exact (below_size (by repeat (with_reducible first | exact HB.out | apply pw_below_drewN | apply below_drew1 | refine below_set ?_ GE129.out))) : w.heap.size ≤ gb130)); have GE130 := Aside0.mk ((by rw [hg]; exact (below_size (by repeat (with_reducible first | exact HB.out | apply pw_below_drewN | apply below_drew1 | refine below_set ?_ GE129.out))) : w.heap.size ≤ gb130)); replace HB := Aside0.mk (below_step (by repeat (with_reducible first | exact HB.out | apply pw_below_drewN | apply below_drew1 | refine below_set ?_ GE129.out)) hb); have NB129_130 := Aside0.mk ((by rw [hg]; exact Nat.ne_of_lt (blk_lt BK129.out) : gb129 ≠ gb130)); have NB130_129 := Aside0.mk ((by rw [hg]; exact Nat.ne_of_gt (blk_lt BK129.out) : gb130 ≠ gb129)); replace BK129 := bl_ BK129 hb; clear hb hbox hg; have hnb8 := NB129_130.out; have hnc8 := NB130_129.out; have hcz9_0 : w7.cell? ⟨gb129, 0, none⟩ = some (.int .i64 a0_0) := (blk_cell BK129.out 0).trans rfl; have hcz9_1 : w7.cell? ⟨gb129, 1, none⟩ = some (.int .i64 a0_1) := (blk_cell BK129.out 1).trans rfl; have hcz9_2 : w7.cell? ⟨gb129, 2, none⟩ = some (.int .i64 a0_2) := (blk_cell BK129.out 2).trans rfl; have hcz9_3 : w7.cell? ⟨gb129, 3, none⟩ = some (.int .i64 a0_3) := (blk_cell BK129.out 3).trans rfl; have hcz9_4 : w7.cell? ⟨gb129, 4, none⟩ = some (.int .i64 a0_4) := (blk_cell BK129.out 4).trans rfl; have hcz9_5 : w7.cell? ⟨gb129, 5, none⟩ = some (.int .i64 a0_5) := (blk_cell BK129.out 5).trans rfl; have hfz9_0 := blk_frozen BK129.out 0; have hfz9_1 := blk_frozen BK129.out 1; have hfz9_2 := blk_frozen BK129.out 2; have hfz9_3 := blk_frozen BK129.out 3; have hfz9_4 := blk_frozen BK129.out 4; have hfz9_5 := blk_frozen BK129.out 5) | ((with_reducible refine gate_callee (f := 95) rfl ?_); refine goesL_ (some 14) rfl rfl Try.func95 (by kernel_rfl) rfl #[.int .i64 a0_2, .int .i64 a1] rfl (by (try simp only [List.map_toArray, List.map_cons, List.map_nil]); first | done | rfl | (simp only [List.length_drop, List.length_take]; rfl)) ?_; (with_reducible refine (life_Next.calls a0_2 a1 t131 t132 _ A5.out).mono ?_); rintro e w10 ⟨rfl, hb⟩; refine ⟨_, rfl, ?_⟩; replace BK129 := bl_ BK129 hb; replace BK130 := bl_ BK130 hb; replace HB := Aside0.mk (below_step (by repeat (with_reducible first | exact HB.out | apply pw_below_drewN | apply below_drew1 | refine below_set ?_ (Aside0.out (by assumption)))) hb); (try clear hb); (try clear hb2); (try clear hk); (try clear hi); have hcz11_0 : w10.cell? ⟨gb129, 0, none⟩ = some (.int .i64 a0_0) := (blk_cell BK129.out 0).trans rfl; have hcz11_1 : w10.cell? ⟨gb129, 1, none⟩ = some (.int .i64 a0_1) := (blk_cell BK129.out 1).trans rfl; have hcz11_2 : w10.cell? ⟨gb129, 2, none⟩ = some (.int .i64 a0_2) := (blk_cell BK129.out 2).trans rfl; have hcz11_3 : w10.cell? ⟨gb129, 3, none⟩ = some (.int .i64 a0_3) := (blk_cell BK129.out 3).trans rfl; have hcz11_4 : w10.cell? ⟨gb129, 4, none⟩ = some (.int .i64 a0_4) := (blk_cell BK129.out 4).trans rfl; have hcz11_5 : w10.cell? ⟨gb129, 5, none⟩ = some (.int .i64 a0_5) := (blk_cell BK129.out 5).trans rfl; have hfz11_0 := blk_frozen BK129.out 0; have hfz11_1 := blk_frozen BK129.out 1; have hfz11_2 := blk_frozen BK129.out 2; have hfz11_3 := blk_frozen BK129.out 3; have hfz11_4 := blk_frozen BK129.out 4; have hfz11_5 := blk_frozen BK129.out 5; have hcz12_0 : w10.cell? ⟨gb130, 0, none⟩ = some (.int .i64 0) := (blk_cell BK130.out 0).trans rfl; have hcz12_1 : w10.cell? ⟨gb130, 1, none⟩ = some (.int .i64 0) := (blk_cell BK130.out 1).trans rfl; have hcz12_2 : w10.cell? ⟨gb130, 2, none⟩ = some (.int .i64 0) := (blk_cell BK130.out 2).trans rfl; have hcz12_3 : w10.cell? ⟨gb130, 3, none⟩ = some (.int .i64 0) := (blk_cell BK130.out 3).trans rfl; have hcz12_4 : w10.cell? ⟨gb130, 4, none⟩ = some (.int .i64 0) := (blk_cell BK130.out 4).trans rfl; have hcz12_5 : w10.cell? ⟨gb130, 5, none⟩ = some (.int .i64 0) := (blk_cell BK130.out 5).trans rfl; have hfz12_0 := blk_frozen BK130.out 0; have hfz12_1 := blk_frozen BK130.out 1; have hfz12_2 := blk_frozen BK130.out 2; have hfz12_3 := blk_frozen BK130.out 3; have hfz12_4 := blk_frozen BK130.out 4; have hfz12_5 := blk_frozen BK130.out 5))
 refine bodyPost_ret (results_cell_row rfl _ _ gb130 85 #[.int .i64 a0_0, .int .i64 a0_1, .int .i64 t131, .int .i64 a0_3, .int .i64 a0_4, .int .i64 (wrap64 (a2 + a3))] (0, 0) _ rfl (by refine blk_put (cs := #[.int .i64 a0_0, .int .i64 a0_1, .int .i64 t131, .int .i64 a0_3, .int .i64 a0_4, .int .i64 0]) ?_ 5 _ rfl; refine blk_put (cs := #[.int .i64 a0_0, .int .i64 a0_1, .int .i64 t131, .int .i64 a0_3, .int .i64 0, .int .i64 0]) ?_ 4 _ rfl; refine blk_put (cs := #[.int .i64 a0_0, .int .i64 a0_1, .int .i64 t131, .int .i64 0, .int .i64 0, .int .i64 0]) ?_ 3 _ rfl; refine blk_put (cs := #[.int .i64 a0_0, .int .i64 a0_1, .int .i64 0, .int .i64 0, .int .i64 0, .int .i64 0]) ?_ 2 _ rfl; refine blk_put (cs := #[.int .i64 a0_0, .int .i64 0, .int .i64 0, .int .i64 0, .int .i64 0, .int .i64 0]) ?_ 1 _ rfl; refine blk_put (cs := #[.int .i64 0, .int .i64 0, .int .i64 0, .int .i64 0, .int .i64 0, .int .i64 0]) ?_ 0 _ rfl; refine blk_far ?_ NB130_129.out _; refine blk_far ?_ NB130_129.out _; exact BK130.out) Try.underlying85 rfl (by kernel_rfl)) rfl ?_
 exact ⟨by first | rfl | (simp [errW_none, errW_some] <;> rfl) | (simp [*, errW_none, errW_some] <;> rfl), by repeat (with_reducible first | exact HB.out | apply pw_below_drewN | apply below_drew1 | refine below_set ?_ (Aside0.out (by assumption)))⟩

/-! ### alarm_clock_woken: function 67 -/
def alarm_clock_woken.f (a0_0 : Int) (a0_1 : Int) (a0_2 : Int) (a0_3 : Int) (a0_4 : Int) (a0_5 : Int) (a1 : Int) (a2 : Int) : Option (Int × Int × Int × Int × Int × Int) := (alarm_Wait.f a0_3).bind fun t135 => ((alarm_clock_turned.f a0_0 a0_1 a0_2 a0_3 a0_4 a0_5 6 a1 t135).bind fun bt136 => (some (bt136.1, bt136.2.1, bt136.2.2.1, bt136.2.2.2.1, bt136.2.2.2.2.1, bt136.2.2.2.2.2)))
def alarm_clock_woken.T1 : Bool × List (List Nat × List Nat) := (true, [([], []), ([], []), ([], []), ([2], [2]), ([3], [3]), ([4], [4]), ([0, 1, 5, 5], [0, 1, 5]), ([6, 6, 0, 1, 2, 3, 4, 5, 6], [6])])
def alarm_clock_woken.B1 : List Nat := [0, 0, 0, 4, 12, 28, 63, 127]
theorem alarm_clock_woken.tab1 : rtab .any (opsOf Try.f67 1) = alarm_clock_woken.T1 := by kernel_rfl
theorem alarm_clock_woken.bits1 : waitsOk alarm_clock_woken.T1.2 alarm_clock_woken.B1 = true := by kernel_rfl
set_option maxHeartbeats 8000000 in
set_option maxRecDepth 100000 in
theorem alarm_clock_woken.calls (a0_0 : Int) (a0_1 : Int) (a0_2 : Int) (a0_3 : Int) (a0_4 : Int) (a0_5 : Int) (a1 : Int) (a2 : Int) (r1 : Int) (r2 : Int) (r3 : Int) (r4 : Int) (r5 : Int) (r6 : Int) (w : World) (h : alarm_clock_woken.f a0_0 a0_1 a0_2 a0_3 a0_4 a0_5 a1 a2 = some (r1, r2, r3, r4, r5, r6)) :
  Calls Try.prog 67 #[.agg #[.int .i64 a0_0, .int .i64 a0_1, .int .i64 a0_2, .int .i64 a0_3, .int .i64 a0_4, .int .i64 a0_5], .int .i64 a1, .int .i64 a2] w fun e w' => e = .returned (.agg #[.int .i64 r1, .int .i64 r2, .int .i64 r3, .int .i64 r4, .int .i64 r5, .int .i64 r6]) ∧ Below w.heap.size w w' := by
 have hu85 := Try.underlying85
 have HB := Aside0.mk (Below.refl w.heap.size w)
 have H : ((alarm_Wait.f a0_3).bind fun t135 => ((alarm_clock_turned.f a0_0 a0_1 a0_2 a0_3 a0_4 a0_5 6 a1 t135).bind fun bt136 => (some (bt136.1, bt136.2.1, bt136.2.2.1, bt136.2.2.2.1, bt136.2.2.2.2.1, bt136.2.2.2.2.2)))) = some (r1, r2, r3, r4, r5, r6) := h
 clear h
 replace H := Option.bind_eq_some_iff.mp H
 obtain ⟨t135, A40, H⟩ := H
 try dsimp only at H
 have A4 := Aside0.mk A40
 clear A40
 replace H := Option.bind_eq_some_iff.mp H
 obtain ⟨⟨t136, t137, t138, t139, t140, t141⟩, A50, H⟩ := H
 try dsimp only at H
 have A5 := Aside0.mk A50
 clear A50
 simp only [Option.some.injEq, Prod.mk.injEq] at H
 obtain ⟨rfl, rfl, rfl, rfl, rfl, rfl⟩ := H
 go_enter Try.func67, Try.ntmps67
 try go_wp2_with (first | ((with_reducible refine gate_dst (N := 3) rfl ?_); refine box_event ?hg (N := 3) ?hd (cs := #[.int .i64 a0_0, .int .i64 a0_1, .int .i64 a0_2, .int .i64 a0_3, .int .i64 a0_4, .int .i64 a0_5]) (t := 85) ?hr ?_; (case hd => rfl); (case hg => rfl); (case hr => first | (go_simp; done) | (go_simp; rfl)); intro gb133 hg w6 hbox hb; have BK133 := Aside0.mk (hbox); have GW133 := Aside0.mk ((by rw [hg]; exact (below_size (by repeat (first | (with_reducible first | exact HB.out | apply below_alloc | apply pw_below_drewN | apply below_drew1) | exact HB.out))) : w.heap.size ≤ gb133)); have GE133 := Aside0.mk ((by rw [hg]; exact (below_size (by repeat (first | (with_reducible first | exact HB.out | apply below_alloc | apply pw_below_drewN | apply below_drew1) | exact HB.out))) : w.heap.size ≤ gb133)); replace HB := Aside0.mk (below_step (by repeat (first | (with_reducible first | exact HB.out | apply below_alloc | apply pw_below_drewN | apply below_drew1) | exact HB.out)) hb); clear hb hbox hg) | ((with_reducible refine gate_dst (N := 6) rfl ?_); refine box_event ?hg (N := 6) ?hd (cs := #[.int .i64 0, .int .i64 0, .int .i64 0, .int .i64 0, .int .i64 0, .int .i64 0]) (t := 85) ?hr ?_; (case hd => rfl); (case hg => rfl); (case hr => first | (go_simp; done) | (go_simp; rfl)); intro gb134 hg w7 hbox hb; have BK134 := Aside0.mk (hbox); have GW134 := Aside0.mk ((by rw [hg]; exact (below_size (by repeat (first | (with_reducible first | exact HB.out | apply below_alloc | apply pw_below_drewN | apply below_drew1 | refine below_set ?_ GE133.out) | exact HB.out))) : w.heap.size ≤ gb134)); have GE134 := Aside0.mk ((by rw [hg]; exact (below_size (by repeat (first | (with_reducible first | exact HB.out | apply below_alloc | apply pw_below_drewN | apply below_drew1 | refine below_set ?_ GE133.out) | exact HB.out))) : w.heap.size ≤ gb134)); replace HB := Aside0.mk (below_step (by repeat (first | (with_reducible first | exact HB.out | apply below_alloc | apply pw_below_drewN | apply below_drew1 | refine below_set ?_ GE133.out) | exact HB.out)) hb); have NB133_134 := Aside0.mk ((by rw [hg]; exact Nat.ne_of_lt (blk_lt (g := gb133) (o := .cells #[.int .i64 a0_0, .int .i64 a0_1, .int .i64 a0_2, .int .i64 a0_3, .int .i64 a0_4, .int .i64 a0_5] 85 (0, 0)) (by (with_reducible repeat (first | refine blk_drewN ?_ _ | refine blk_drew ?_ | refine blk_alloc ?_ _)); exact BK133.out)) : gb133 ≠ gb134)); have NB134_133 := Aside0.mk ((by rw [hg]; exact Nat.ne_of_gt (blk_lt (g := gb133) (o := .cells #[.int .i64 a0_0, .int .i64 a0_1, .int .i64 a0_2, .int .i64 a0_3, .int .i64 a0_4, .int .i64 a0_5] 85 (0, 0)) (by (with_reducible repeat (first | refine blk_drewN ?_ _ | refine blk_drew ?_ | refine blk_alloc ?_ _)); exact BK133.out)) : gb134 ≠ gb133)); replace BK133 := Aside0.mk (blk_below (g := gb133) (o := .cells #[.int .i64 a0_0, .int .i64 a0_1, .int .i64 a0_2, .int .i64 a0_3, .int .i64 a0_4, .int .i64 a0_5] 85 (0, 0)) (by (with_reducible repeat (first | refine blk_drewN ?_ _ | refine blk_drew ?_ | refine blk_alloc ?_ _)); exact BK133.out) hb); clear hb hbox hg))
 replace BK133 := Aside0.mk (blk_drew BK133.out)
 replace BK134 := Aside0.mk (blk_drew BK134.out)
 replace HB := Aside0.mk (below_drew1 HB.out)
 refine start_ (n := 8) (S := fun w' => w'.cell? ⟨gb133, 0, none⟩ = some (.int .i64 a0_0) ∧ w'.cell? ⟨gb133, 1, none⟩ = some (.int .i64 a0_1) ∧ w'.cell? ⟨gb133, 2, none⟩ = some (.int .i64 a0_2) ∧ w'.cell? ⟨gb133, 3, none⟩ = some (.int .i64 a0_3) ∧ w'.cell? ⟨gb133, 4, none⟩ = some (.int .i64 a0_4) ∧ w'.cell? ⟨gb133, 5, none⟩ = some (.int .i64 a0_5)) (ds := []) #[false, false, false, false, false, false, false, false] (by kernel_rfl) rfl rfl ⟨(blk_cell BK133.out 0).trans rfl, (blk_cell BK133.out 1).trans rfl, (blk_cell BK133.out 2).trans rfl, (blk_cell BK133.out 3).trans rfl, (blk_cell BK133.out 4).trans rfl, (blk_cell BK133.out 5).trans rfl⟩ (fun hHeld => ?_); refine with_tabW alarm_clock_woken.tab1 alarm_clock_woken.bits1 (fun HT_ HW_ => ?_)
 generalize w7.drew = w8 at BK133 BK134 HB hHeld ⊢
 have Q_ := Qs.mk (n := 8) [(0, 1, 8, 2), (0, 2, 9, 6), (0, 3, 10, 14), (2, 0, 7, 15), (2, 4, 11, 31)]
 iterate 5 (first | (obtain ⟨q_, Q_⟩ := Qs.p Q_; refine pureQ_ q_ (v := ?_) (a' := ?_) rfl rfl (any_of HT_.out (by kernel_rfl)) (fun _ _ _ h => h) (Or.inl ⟨by rfl, ?_⟩) ?_ ?_; rotate_left; (intro w'; go_simp; with_reducible rfl); rotate_left; (simp only [Act.put, List.setIfInBounds_toArray, List.set_cons_zero, List.set_cons_succ, i64_w, i32_w]; rfl)) | (obtain ⟨q_, Q_⟩ := Qs.t Q_; refine takeQ_ q_ (v := ?_) (a' := ?_) rfl rfl (take_ofW HT_.out HW_.out (by kernel_rfl)) (fun _ _ _ h => h) (Or.inl ⟨by rfl, ?_⟩) hHeld ?_ ?_; rotate_left; (rintro w' ⟨s0, s1, s2, s3, s4, s5⟩; go_simp; with_reducible rfl); rotate_left; (simp only [Act.put, List.setIfInBounds_toArray, List.set_cons_zero, List.set_cons_succ, i64_w, i32_w]; rfl)))
 clear Q_
 refine one_ (i := 5) (N := some 12) (dn_ 6 8) rfl rfl (one_of HT_.out (by kernel_rfl)) (by decide) (fun K hK => ?_)
 refine goes_ Try.func82 (by kernel_rfl) rfl #[.int .i64 a0_3] (by rfl) rfl rfl (by (try simp only [List.map_toArray, List.map_cons, List.map_nil]); first | done | rfl | (simp only [List.length_drop, List.length_take]; rfl)) ?_
 with_reducible refine (alarm_Wait.calls a0_3 t135 _ A4.out).mono ?_
 rintro e w' ⟨rfl, ⟨nd, rfl⟩⟩
 refine ⟨_, rfl, ?_⟩
 refine hK.out _ _ ⟨(blk_cell BK133.out 0).trans rfl, (blk_cell BK133.out 1).trans rfl, (blk_cell BK133.out 2).trans rfl, (blk_cell BK133.out 3).trans rfl, (blk_cell BK133.out 4).trans rfl, (blk_cell BK133.out 5).trans rfl⟩ (fun hHeld => ?_)
 clear hK K
 refine norm_ (a' := ?_) ?_ ?_
 rotate_left
 ·show Act.put _ (some 12) _ = _
  simp only [Act.put, List.setIfInBounds_toArray, List.set_cons_zero, List.set_cons_succ, i64_w, i32_w]
  rfl
 refine one_ (i := 6) (N := some 13) (dn_ 7 8) rfl rfl (one_of HT_.out (by kernel_rfl)) (by decide) (fun K hK => ?_)
 refine goes_ Try.func90 (by kernel_rfl) rfl #[.agg #[.int .i64 a0_0, .int .i64 a0_1, .int .i64 a0_2, .int .i64 a0_3, .int .i64 a0_4, .int .i64 a0_5], .int .i64 6, .int .i64 a1, .int .i64 t135] (by rfl) rfl rfl (by (try simp only [List.map_toArray, List.map_cons, List.map_nil]); first | done | rfl | (simp only [List.length_drop, List.length_take]; rfl)) ?_
 with_reducible refine (alarm_clock_turned.calls a0_0 a0_1 a0_2 a0_3 a0_4 a0_5 6 a1 t135 t136 t137 t138 t139 t140 t141 _ A5.out).mono ?_
 rintro e w9 ⟨rfl, hb⟩
 refine ⟨_, rfl, ?_⟩
 replace BK133 := Aside0.mk (blk_below (g := gb133) (o := .cells #[.int .i64 a0_0, .int .i64 a0_1, .int .i64 a0_2, .int .i64 a0_3, .int .i64 a0_4, .int .i64 a0_5] 85 (0, 0)) (by (with_reducible repeat (first | refine blk_drewN ?_ _ | refine blk_drew ?_ | refine blk_alloc ?_ _)); exact BK133.out) hb)
 replace BK134 := Aside0.mk (blk_below (g := gb134) (o := .cells #[.int .i64 0, .int .i64 0, .int .i64 0, .int .i64 0, .int .i64 0, .int .i64 0] 85 (0, 0)) (by (with_reducible repeat (first | refine blk_drewN ?_ _ | refine blk_drew ?_ | refine blk_alloc ?_ _)); exact BK134.out) hb)
 replace HB := Aside0.mk (below_step (by repeat (first | (with_reducible first | exact HB.out | apply below_alloc | apply pw_below_drewN | apply below_drew1 | refine below_set ?_ GE133.out | refine below_set ?_ GE134.out) | exact HB.out)) hb)
 (try clear hb)
 (try clear hb2)
 (try clear hk)
 (try clear hi)
 refine hK.out _ _ ⟨(blk_cell BK133.out 0).trans rfl, (blk_cell BK133.out 1).trans rfl, (blk_cell BK133.out 2).trans rfl, (blk_cell BK133.out 3).trans rfl, (blk_cell BK133.out 4).trans rfl, (blk_cell BK133.out 5).trans rfl⟩ (fun hHeld => ?_)
 clear hK K
 refine norm_ (a' := ?_) ?_ ?_
 rotate_left
 ·show Act.put _ (some 13) _ = _
  simp only [Act.put, List.setIfInBounds_toArray, List.set_cons_zero, List.set_cons_succ, i64_w, i32_w]
  rfl
 refine one_ (i := 7) (N := none) #[true, true, true, true, true, true, true, true] rfl rfl (one_of HT_.out (by kernel_rfl)) (by decide) (fun K hK => ?_)
 have hs10 : w9.cell? ⟨gb134, 0, none⟩ = some (.int .i64 0) := (blk_cell BK134.out 0).trans rfl
 have hfs10 := blk_frozen BK134.out 0
 have hns10_0 := NB133_134.out
 have hms10_0 := NB134_133.out
 have hs11 : w9.cell? ⟨gb134, 1, none⟩ = some (.int .i64 0) := (blk_cell BK134.out 1).trans rfl
 have hfs11 := blk_frozen BK134.out 1
 have hns11_0 := NB133_134.out
 have hms11_0 := NB134_133.out
 have hs12 : w9.cell? ⟨gb134, 2, none⟩ = some (.int .i64 0) := (blk_cell BK134.out 2).trans rfl
 have hfs12 := blk_frozen BK134.out 2
 have hns12_0 := NB133_134.out
 have hms12_0 := NB134_133.out
 have hs13 : w9.cell? ⟨gb134, 3, none⟩ = some (.int .i64 0) := (blk_cell BK134.out 3).trans rfl
 have hfs13 := blk_frozen BK134.out 3
 have hns13_0 := NB133_134.out
 have hms13_0 := NB134_133.out
 have hs14 : w9.cell? ⟨gb134, 4, none⟩ = some (.int .i64 0) := (blk_cell BK134.out 4).trans rfl
 have hfs14 := blk_frozen BK134.out 4
 have hns14_0 := NB133_134.out
 have hms14_0 := NB134_133.out
 have hs15 : w9.cell? ⟨gb134, 5, none⟩ = some (.int .i64 0) := (blk_cell BK134.out 5).trans rfl
 have hfs15 := blk_frozen BK134.out 5
 have hns15_0 := NB133_134.out
 have hms15_0 := NB134_133.out
 refine skip_ (w1 := ?_) (by rfl) rfl ?_ ?_
 rotate_left
 ·go_simp
  rfl
 refine hK.out _ _ ⟨((cell_far (p := ⟨gb134, _, none⟩) NB133_134.out _).trans (((cell_far (p := ⟨gb134, _, none⟩) NB133_134.out _).trans (((cell_far (p := ⟨gb134, _, none⟩) NB133_134.out _).trans (((cell_far (p := ⟨gb134, _, none⟩) NB133_134.out _).trans (((cell_far (p := ⟨gb134, _, none⟩) NB133_134.out _).trans (((cell_far (p := ⟨gb134, _, none⟩) NB133_134.out _).trans (hHeld.1)))))))))))), ((cell_far (p := ⟨gb134, _, none⟩) NB133_134.out _).trans (((cell_far (p := ⟨gb134, _, none⟩) NB133_134.out _).trans (((cell_far (p := ⟨gb134, _, none⟩) NB133_134.out _).trans (((cell_far (p := ⟨gb134, _, none⟩) NB133_134.out _).trans (((cell_far (p := ⟨gb134, _, none⟩) NB133_134.out _).trans (((cell_far (p := ⟨gb134, _, none⟩) NB133_134.out _).trans (hHeld.2.1)))))))))))), ((cell_far (p := ⟨gb134, _, none⟩) NB133_134.out _).trans (((cell_far (p := ⟨gb134, _, none⟩) NB133_134.out _).trans (((cell_far (p := ⟨gb134, _, none⟩) NB133_134.out _).trans (((cell_far (p := ⟨gb134, _, none⟩) NB133_134.out _).trans (((cell_far (p := ⟨gb134, _, none⟩) NB133_134.out _).trans (((cell_far (p := ⟨gb134, _, none⟩) NB133_134.out _).trans (hHeld.2.2.1)))))))))))), ((cell_far (p := ⟨gb134, _, none⟩) NB133_134.out _).trans (((cell_far (p := ⟨gb134, _, none⟩) NB133_134.out _).trans (((cell_far (p := ⟨gb134, _, none⟩) NB133_134.out _).trans (((cell_far (p := ⟨gb134, _, none⟩) NB133_134.out _).trans (((cell_far (p := ⟨gb134, _, none⟩) NB133_134.out _).trans (((cell_far (p := ⟨gb134, _, none⟩) NB133_134.out _).trans (hHeld.2.2.2.1)))))))))))), ((cell_far (p := ⟨gb134, _, none⟩) NB133_134.out _).trans (((cell_far (p := ⟨gb134, _, none⟩) NB133_134.out _).trans (((cell_far (p := ⟨gb134, _, none⟩) NB133_134.out _).trans (((cell_far (p := ⟨gb134, _, none⟩) NB133_134.out _).trans (((cell_far (p := ⟨gb134, _, none⟩) NB133_134.out _).trans (((cell_far (p := ⟨gb134, _, none⟩) NB133_134.out _).trans (hHeld.2.2.2.2.1)))))))))))), ((cell_far (p := ⟨gb134, _, none⟩) NB133_134.out _).trans (((cell_far (p := ⟨gb134, _, none⟩) NB133_134.out _).trans (((cell_far (p := ⟨gb134, _, none⟩) NB133_134.out _).trans (((cell_far (p := ⟨gb134, _, none⟩) NB133_134.out _).trans (((cell_far (p := ⟨gb134, _, none⟩) NB133_134.out _).trans (((cell_far (p := ⟨gb134, _, none⟩) NB133_134.out _).trans (hHeld.2.2.2.2.2))))))))))))⟩ (fun hHeld => ?_)
 clear hK K
 refine done_ (done_of HT_.out (by kernel_rfl)) ?_
 try go_wp2
 refine bodyPost_ret (results_cell_row rfl _ _ gb134 85 #[.int .i64 t136, .int .i64 t137, .int .i64 t138, .int .i64 t139, .int .i64 t140, .int .i64 t141] (0, 0) _ rfl (by (with_reducible repeat (first | refine blk_drewN ?_ _ | refine blk_drew ?_ | refine blk_alloc ?_ _)); refine blk_put (cs := #[.int .i64 t136, .int .i64 t137, .int .i64 t138, .int .i64 t139, .int .i64 t140, .int .i64 0]) ?_ 5 _ rfl; (with_reducible repeat (first | refine blk_drewN ?_ _ | refine blk_drew ?_ | refine blk_alloc ?_ _)); refine blk_put (cs := #[.int .i64 t136, .int .i64 t137, .int .i64 t138, .int .i64 t139, .int .i64 0, .int .i64 0]) ?_ 4 _ rfl; (with_reducible repeat (first | refine blk_drewN ?_ _ | refine blk_drew ?_ | refine blk_alloc ?_ _)); refine blk_put (cs := #[.int .i64 t136, .int .i64 t137, .int .i64 t138, .int .i64 0, .int .i64 0, .int .i64 0]) ?_ 3 _ rfl; (with_reducible repeat (first | refine blk_drewN ?_ _ | refine blk_drew ?_ | refine blk_alloc ?_ _)); refine blk_put (cs := #[.int .i64 t136, .int .i64 t137, .int .i64 0, .int .i64 0, .int .i64 0, .int .i64 0]) ?_ 2 _ rfl; (with_reducible repeat (first | refine blk_drewN ?_ _ | refine blk_drew ?_ | refine blk_alloc ?_ _)); refine blk_put (cs := #[.int .i64 t136, .int .i64 0, .int .i64 0, .int .i64 0, .int .i64 0, .int .i64 0]) ?_ 1 _ rfl; (with_reducible repeat (first | refine blk_drewN ?_ _ | refine blk_drew ?_ | refine blk_alloc ?_ _)); refine blk_put (cs := #[.int .i64 0, .int .i64 0, .int .i64 0, .int .i64 0, .int .i64 0, .int .i64 0]) ?_ 0 _ rfl; (with_reducible repeat (first | refine blk_drewN ?_ _ | refine blk_drew ?_ | refine blk_alloc ?_ _)); exact BK134.out) Try.underlying85 rfl (by kernel_rfl)) rfl ?_
 exact ⟨by first | rfl | (simp [errW_none, errW_some] <;> rfl) | (simp [*, errW_none, errW_some] <;> rfl), by repeat (first | (with_reducible first | exact HB.out | apply below_alloc | apply pw_below_drewN | apply below_drew1 | refine below_set ?_ GE133.out | refine below_set ?_ GE134.out) | exact HB.out)⟩

/-! ### alarm_clock_escalated: function 68 -/
def alarm_clock_escalated.f (a0_0 : Int) (a0_1 : Int) (a0_2 : Int) (a0_3 : Int) (a0_4 : Int) (a0_5 : Int) (a1 : Int) (a2 : Int) : Option (Int × Int × Int × Int × Int × Int) := (alarm_clock_turned.f a0_0 a0_1 a0_2 a0_3 a0_4 a0_5 2 a1 0).bind fun bt144 => (some (bt144.1, bt144.2.1, bt144.2.2.1, bt144.2.2.2.1, bt144.2.2.2.2.1, bt144.2.2.2.2.2))
set_option maxHeartbeats 8000000 in
set_option maxRecDepth 100000 in
theorem alarm_clock_escalated.calls (a0_0 : Int) (a0_1 : Int) (a0_2 : Int) (a0_3 : Int) (a0_4 : Int) (a0_5 : Int) (a1 : Int) (a2 : Int) (r1 : Int) (r2 : Int) (r3 : Int) (r4 : Int) (r5 : Int) (r6 : Int) (w : World) (h : alarm_clock_escalated.f a0_0 a0_1 a0_2 a0_3 a0_4 a0_5 a1 a2 = some (r1, r2, r3, r4, r5, r6)) :
  Calls Try.prog 68 #[.agg #[.int .i64 a0_0, .int .i64 a0_1, .int .i64 a0_2, .int .i64 a0_3, .int .i64 a0_4, .int .i64 a0_5], .int .i64 a1, .int .i64 a2] w fun e w' => e = .returned (.agg #[.int .i64 r1, .int .i64 r2, .int .i64 r3, .int .i64 r4, .int .i64 r5, .int .i64 r6]) ∧ Below w.heap.size w w' := by
 have hu85 := Try.underlying85
 have HB := Aside0.mk (Below.refl w.heap.size w)
 have H : ((alarm_clock_turned.f a0_0 a0_1 a0_2 a0_3 a0_4 a0_5 2 a1 0).bind fun bt144 => (some (bt144.1, bt144.2.1, bt144.2.2.1, bt144.2.2.2.1, bt144.2.2.2.2.1, bt144.2.2.2.2.2))) = some (r1, r2, r3, r4, r5, r6) := h
 clear h
 replace H := Option.bind_eq_some_iff.mp H
 obtain ⟨⟨t144, t145, t146, t147, t148, t149⟩, A40, H⟩ := H
 try dsimp only at H
 have A4 := Aside0.mk A40
 clear A40
 simp only [Option.some.injEq, Prod.mk.injEq] at H
 obtain ⟨rfl, rfl, rfl, rfl, rfl, rfl⟩ := H
 go_enter Try.func68, Try.ntmps68
 go_wp2_with (first | ((with_reducible refine gate_dst (N := 3) rfl ?_); refine box_event ?hg (N := 3) ?hd (cs := #[.int .i64 a0_0, .int .i64 a0_1, .int .i64 a0_2, .int .i64 a0_3, .int .i64 a0_4, .int .i64 a0_5]) (t := 85) ?hr ?_; (case hd => rfl); (case hg => rfl); (case hr => first | (go_simp; done) | (go_simp; rfl)); intro gb142 hg w5 hbox hb; have BK142 := Aside0.mk (hbox); have GW142 := Aside0.mk ((by rw [hg]; exact (below_size HB.out) : w.heap.size ≤ gb142)); have GE142 := Aside0.mk ((by rw [hg]; exact (below_size HB.out) : w.heap.size ≤ gb142)); replace HB := Aside0.mk (below_step HB.out hb); clear hb hbox hg) | ((with_reducible refine gate_dst (N := 6) rfl ?_); refine box_event ?hg (N := 6) ?hd (cs := #[.int .i64 0, .int .i64 0, .int .i64 0, .int .i64 0, .int .i64 0, .int .i64 0]) (t := 85) ?hr ?_; (case hd => rfl); (case hg => rfl); (case hr => first | (go_simp; done) | (go_simp; rfl)); intro gb143 hg w6 hbox hb; have BK143 := Aside0.mk (hbox); have GW143 := Aside0.mk ((by rw [hg]; exact (below_size (by repeat (with_reducible first | exact HB.out | apply pw_below_drewN | apply below_drew1 | refine below_set ?_ GE142.out))) : w.heap.size ≤ gb143)); have GE143 := Aside0.mk ((by rw [hg]; exact (below_size (by repeat (with_reducible first | exact HB.out | apply pw_below_drewN | apply below_drew1 | refine below_set ?_ GE142.out))) : w.heap.size ≤ gb143)); replace HB := Aside0.mk (below_step (by repeat (with_reducible first | exact HB.out | apply pw_below_drewN | apply below_drew1 | refine below_set ?_ GE142.out)) hb); have NB142_143 := Aside0.mk ((by rw [hg]; exact Nat.ne_of_lt (blk_lt BK142.out) : gb142 ≠ gb143)); have NB143_142 := Aside0.mk ((by rw [hg]; exact Nat.ne_of_gt (blk_lt BK142.out) : gb143 ≠ gb142)); replace BK142 := bl_ BK142 hb; clear hb hbox hg; have hnb7 := NB142_143.out; have hnc7 := NB143_142.out; have hcz8_0 : w6.cell? ⟨gb142, 0, none⟩ = some (.int .i64 a0_0) := (blk_cell BK142.out 0).trans rfl; have hcz8_1 : w6.cell? ⟨gb142, 1, none⟩ = some (.int .i64 a0_1) := (blk_cell BK142.out 1).trans rfl; have hcz8_2 : w6.cell? ⟨gb142, 2, none⟩ = some (.int .i64 a0_2) := (blk_cell BK142.out 2).trans rfl; have hcz8_3 : w6.cell? ⟨gb142, 3, none⟩ = some (.int .i64 a0_3) := (blk_cell BK142.out 3).trans rfl; have hcz8_4 : w6.cell? ⟨gb142, 4, none⟩ = some (.int .i64 a0_4) := (blk_cell BK142.out 4).trans rfl; have hcz8_5 : w6.cell? ⟨gb142, 5, none⟩ = some (.int .i64 a0_5) := (blk_cell BK142.out 5).trans rfl; have hfz8_0 := blk_frozen BK142.out 0; have hfz8_1 := blk_frozen BK142.out 1; have hfz8_2 := blk_frozen BK142.out 2; have hfz8_3 := blk_frozen BK142.out 3; have hfz8_4 := blk_frozen BK142.out 4; have hfz8_5 := blk_frozen BK142.out 5) | ((with_reducible refine gate_callee (f := 90) rfl ?_); refine goesL_ (some 9) rfl rfl Try.func90 (by kernel_rfl) rfl #[.agg #[.int .i64 a0_0, .int .i64 a0_1, .int .i64 a0_2, .int .i64 a0_3, .int .i64 a0_4, .int .i64 a0_5], .int .i64 2, .int .i64 a1, .int .i64 0] rfl (by (try simp only [List.map_toArray, List.map_cons, List.map_nil]); first | done | rfl | (simp only [List.length_drop, List.length_take]; rfl)) ?_; (with_reducible refine (alarm_clock_turned.calls a0_0 a0_1 a0_2 a0_3 a0_4 a0_5 2 a1 0 t144 t145 t146 t147 t148 t149 _ A4.out).mono ?_); rintro e w9 ⟨rfl, hb⟩; refine ⟨_, rfl, ?_⟩; replace BK142 := bl_ BK142 hb; replace BK143 := bl_ BK143 hb; replace HB := Aside0.mk (below_step (by repeat (with_reducible first | exact HB.out | apply pw_below_drewN | apply below_drew1 | refine below_set ?_ (Aside0.out (by assumption)))) hb); (try clear hb); (try clear hb2); (try clear hk); (try clear hi); have hcz10_0 : w9.cell? ⟨gb143, 0, none⟩ = some (.int .i64 0) := (blk_cell BK143.out 0).trans rfl; have hcz10_1 : w9.cell? ⟨gb143, 1, none⟩ = some (.int .i64 0) := (blk_cell BK143.out 1).trans rfl; have hcz10_2 : w9.cell? ⟨gb143, 2, none⟩ = some (.int .i64 0) := (blk_cell BK143.out 2).trans rfl; have hcz10_3 : w9.cell? ⟨gb143, 3, none⟩ = some (.int .i64 0) := (blk_cell BK143.out 3).trans rfl; have hcz10_4 : w9.cell? ⟨gb143, 4, none⟩ = some (.int .i64 0) := (blk_cell BK143.out 4).trans rfl; have hcz10_5 : w9.cell? ⟨gb143, 5, none⟩ = some (.int .i64 0) := (blk_cell BK143.out 5).trans rfl; have hfz10_0 := blk_frozen BK143.out 0; have hfz10_1 := blk_frozen BK143.out 1; have hfz10_2 := blk_frozen BK143.out 2; have hfz10_3 := blk_frozen BK143.out 3; have hfz10_4 := blk_frozen BK143.out 4; have hfz10_5 := blk_frozen BK143.out 5))
 refine bodyPost_ret (results_cell_row rfl _ _ gb143 85 #[.int .i64 t144, .int .i64 t145, .int .i64 t146, .int .i64 t147, .int .i64 t148, .int .i64 t149] (0, 0) _ rfl (by refine blk_put (cs := #[.int .i64 t144, .int .i64 t145, .int .i64 t146, .int .i64 t147, .int .i64 t148, .int .i64 0]) ?_ 5 _ rfl; refine blk_put (cs := #[.int .i64 t144, .int .i64 t145, .int .i64 t146, .int .i64 t147, .int .i64 0, .int .i64 0]) ?_ 4 _ rfl; refine blk_put (cs := #[.int .i64 t144, .int .i64 t145, .int .i64 t146, .int .i64 0, .int .i64 0, .int .i64 0]) ?_ 3 _ rfl; refine blk_put (cs := #[.int .i64 t144, .int .i64 t145, .int .i64 0, .int .i64 0, .int .i64 0, .int .i64 0]) ?_ 2 _ rfl; refine blk_put (cs := #[.int .i64 t144, .int .i64 0, .int .i64 0, .int .i64 0, .int .i64 0, .int .i64 0]) ?_ 1 _ rfl; refine blk_put (cs := #[.int .i64 0, .int .i64 0, .int .i64 0, .int .i64 0, .int .i64 0, .int .i64 0]) ?_ 0 _ rfl; exact BK143.out) Try.underlying85 rfl (by kernel_rfl)) rfl ?_
 exact ⟨by first | rfl | (simp [errW_none, errW_some] <;> rfl) | (simp [*, errW_none, errW_some] <;> rfl), by repeat (with_reducible first | exact HB.out | apply pw_below_drewN | apply below_drew1 | refine below_set ?_ (Aside0.out (by assumption)))⟩

/-! ### alarm_Pass: function 34 -/
def alarm_Pass.l0 : Nat → Int → Int → Int → Int → Int → Int → Int → Option (Int × Int × Int × Int × Int × Int)
 | 0, _, _, _, _, _, _, _ => none
 | k + 1, x1, x154000, x154001, x154002, x154003, x154004, x154005 => (alarm_timed_due.f x154000 x154001 x154002 x154003 x154004 x154005 x1).bind fun t154 => (if t154 = true then (if x154002 = 4 then ((alarm_clock_woken.f x154000 x154001 x154002 x154003 x154004 x154005 x154005 0).bind fun bt155 => (alarm_Pass.l0 k x1 bt155.1 bt155.2.1 bt155.2.2.1 bt155.2.2.2.1 bt155.2.2.2.2.1 bt155.2.2.2.2.2)) else ((alarm_clock_escalated.f x154000 x154001 x154002 x154003 x154004 x154005 x154005 0).bind fun bt161 => (alarm_Pass.l0 k x1 bt161.1 bt161.2.1 bt161.2.2.1 bt161.2.2.2.1 bt161.2.2.2.2.1 bt161.2.2.2.2.2))) else (some (x154000, x154001, x154002, x154003, x154004, x154005)))
def alarm_Pass.f (k : Nat) (a0_0 : Int) (a0_1 : Int) (a0_2 : Int) (a0_3 : Int) (a0_4 : Int) (a0_5 : Int) (a1 : Int) : Option (Int × Int × Int × Int × Int × Int) := (alarm_Is.f a0_0 a0_1 a0_2 a0_3 a0_4 a0_5).bind fun t152 => (if t152 = true then (alarm_Pass.l0 k a1 a0_0 a0_1 a0_2 a0_3 a0_4 a0_5) else (some (a0_0, a0_1, a0_2, a0_3, a0_4, a0_5)))
theorem alarm_Pass.mono_l : ∀ k, (∀ y0 y1 y2 y3 y4 y5 y6, LeO (alarm_Pass.l0 k y0 y1 y2 y3 y4 y5 y6) (alarm_Pass.l0 (k + 1) y0 y1 y2 y3 y4 y5 y6))
 | 0 => fun _ _ _ _ _ _ _ r h => by simp [alarm_Pass.l0] at h
 | k + 1 => by
  have ih0 := alarm_Pass.mono_l k
  ·intro y0 y1 y2 y3 y4 y5 y6
   unfold alarm_Pass.l0
   repeat' first
   | (with_reducible exact ih0 _ _ _ _ _ _ _)
   | (with_reducible exact LeO.refl _)
   | (with_reducible exact LeO.none _)
   | (with_reducible refine LeO.ite ?_ ?_)
   | (with_reducible refine LeO.bind ?_ (fun _ => ?_))
   | exact ih0 _ _ _ _ _ _ _
   | exact LeO.none _
   | refine LeO.ite ?_ ?_
   | refine LeO.bind ?_ (fun _ => ?_)
theorem alarm_Pass.mono : ∀ a0 a1 a2 a3 a4 a5 a6 k, LeO (alarm_Pass.f k a0 a1 a2 a3 a4 a5 a6) (alarm_Pass.f (k + 1) a0 a1 a2 a3 a4 a5 a6) := by
 intro a0 a1 a2 a3 a4 a5 a6 k
 have ih0 := alarm_Pass.mono_l k
 unfold alarm_Pass.f
 repeat' first
   | (with_reducible exact ih0 _ _ _ _ _ _ _)
   | (with_reducible exact LeO.refl _)
   | (with_reducible exact LeO.none _)
   | (with_reducible refine LeO.ite ?_ ?_)
   | (with_reducible refine LeO.bind ?_ (fun _ => ?_))
   | exact ih0 _ _ _ _ _ _ _
   | exact LeO.none _
   | refine LeO.ite ?_ ?_
   | refine LeO.bind ?_ (fun _ => ?_)
set_option maxHeartbeats 8000000 in
set_option maxRecDepth 100000 in
theorem alarm_Pass.calls (k : Nat) (a0_0 : Int) (a0_1 : Int) (a0_2 : Int) (a0_3 : Int) (a0_4 : Int) (a0_5 : Int) (a1 : Int) (r1 : Int) (r2 : Int) (r3 : Int) (r4 : Int) (r5 : Int) (r6 : Int) (w : World) (h : alarm_Pass.f k a0_0 a0_1 a0_2 a0_3 a0_4 a0_5 a1 = some (r1, r2, r3, r4, r5, r6)) :
  Calls Try.prog 34 #[.agg #[.int .i64 a0_0, .int .i64 a0_1, .int .i64 a0_2, .int .i64 a0_3, .int .i64 a0_4, .int .i64 a0_5], .int .i64 a1] w fun e w' => e = .returned (.agg #[.int .i64 r1, .int .i64 r2, .int .i64 r3, .int .i64 r4, .int .i64 r5, .int .i64 r6]) ∧ Below w.heap.size w w' := by
 have hu28 := Try.underlying28
 have hu85 := Try.underlying85
 have hu87 := Try.underlying87
 have HB := Aside0.mk (Below.refl w.heap.size w)
 have H : ((alarm_Is.f a0_0 a0_1 a0_2 a0_3 a0_4 a0_5).bind fun t152 => (if t152 = true then (alarm_Pass.l0 k a1 a0_0 a0_1 a0_2 a0_3 a0_4 a0_5) else (some (a0_0, a0_1, a0_2, a0_3, a0_4, a0_5)))) = some (r1, r2, r3, r4, r5, r6) := h
 clear h
 replace H := Option.bind_eq_some_iff.mp H
 obtain ⟨t152, A30, H⟩ := H
 try dsimp only at H
 have A3 := Aside0.mk A30
 clear A30
 by_cases c4 : t152 = true
 ·subst c4
  rw [if_pos rfl] at H; try dsimp only at H
  have H' := Aside0.mk H
  clear H
  go_enter Try.func34, Try.ntmps34
  go_wp2_with (first | ((with_reducible refine gate_dst (N := 2) rfl ?_); refine box_event ?hg (N := 2) ?hd (cs := #[.int .i64 a0_0, .int .i64 a0_1, .int .i64 a0_2, .int .i64 a0_3, .int .i64 a0_4, .int .i64 a0_5]) (t := 28) ?hr ?_; (case hd => rfl); (case hg => rfl); (case hr => first | (go_simp; done) | (go_simp; rfl)); intro gb150 hg w5 hbox hb; have BK150 := Aside0.mk (hbox); have GW150 := Aside0.mk ((by rw [hg]; exact (below_size HB.out) : w.heap.size ≤ gb150)); have GE150 := Aside0.mk ((by rw [hg]; exact (below_size HB.out) : w.heap.size ≤ gb150)); replace HB := Aside0.mk (below_step HB.out hb); clear hb hbox hg) | ((with_reducible refine gate_dst (N := 4) rfl ?_); refine box_event ?hg (N := 4) ?hd (cs := #[.int .i64 0, .int .i64 0, .int .i64 0, .int .i64 0, .int .i64 0, .int .i64 0]) (t := 28) ?hr ?_; (case hd => rfl); (case hg => rfl); (case hr => first | (go_simp; done) | (go_simp; rfl)); intro gb151 hg w6 hbox hb; have BK151 := Aside0.mk (hbox); have GW151 := Aside0.mk ((by rw [hg]; exact (below_size (by repeat (with_reducible first | exact HB.out | apply pw_below_drewN | apply below_drew1 | refine below_set ?_ GE150.out))) : w.heap.size ≤ gb151)); have GE151 := Aside0.mk ((by rw [hg]; exact (below_size (by repeat (with_reducible first | exact HB.out | apply pw_below_drewN | apply below_drew1 | refine below_set ?_ GE150.out))) : w.heap.size ≤ gb151)); replace HB := Aside0.mk (below_step (by repeat (with_reducible first | exact HB.out | apply pw_below_drewN | apply below_drew1 | refine below_set ?_ GE150.out)) hb); have NB150_151 := Aside0.mk ((by rw [hg]; exact Nat.ne_of_lt (blk_lt BK150.out) : gb150 ≠ gb151)); have NB151_150 := Aside0.mk ((by rw [hg]; exact Nat.ne_of_gt (blk_lt BK150.out) : gb151 ≠ gb150)); replace BK150 := bl_ BK150 hb; clear hb hbox hg; have hnb7 := NB150_151.out; have hnc7 := NB151_150.out; have hcz8_0 : w6.cell? ⟨gb150, 0, none⟩ = some (.int .i64 a0_0) := (blk_cell BK150.out 0).trans rfl; have hcz8_1 : w6.cell? ⟨gb150, 1, none⟩ = some (.int .i64 a0_1) := (blk_cell BK150.out 1).trans rfl; have hcz8_2 : w6.cell? ⟨gb150, 2, none⟩ = some (.int .i64 a0_2) := (blk_cell BK150.out 2).trans rfl; have hcz8_3 : w6.cell? ⟨gb150, 3, none⟩ = some (.int .i64 a0_3) := (blk_cell BK150.out 3).trans rfl; have hcz8_4 : w6.cell? ⟨gb150, 4, none⟩ = some (.int .i64 a0_4) := (blk_cell BK150.out 4).trans rfl; have hcz8_5 : w6.cell? ⟨gb150, 5, none⟩ = some (.int .i64 a0_5) := (blk_cell BK150.out 5).trans rfl; have hfz8_0 := blk_frozen BK150.out 0; have hfz8_1 := blk_frozen BK150.out 1; have hfz8_2 := blk_frozen BK150.out 2; have hfz8_3 := blk_frozen BK150.out 3; have hfz8_4 := blk_frozen BK150.out 4; have hfz8_5 := blk_frozen BK150.out 5) | ((with_reducible refine gate_callee (f := 50) rfl ?_); refine goesL_ (some 7) rfl rfl Try.func50 (by kernel_rfl) rfl #[.agg #[.int .i64 a0_0, .int .i64 a0_1, .int .i64 a0_2, .int .i64 a0_3, .int .i64 a0_4, .int .i64 a0_5]] rfl (by (try simp only [List.map_toArray, List.map_cons, List.map_nil]); first | done | rfl | (simp only [List.length_drop, List.length_take]; rfl)) ?_; (with_reducible refine (alarm_Is.calls a0_0 a0_1 a0_2 a0_3 a0_4 a0_5 true _ A3.out).mono ?_); rintro e w9 ⟨rfl, hb⟩; refine ⟨_, rfl, ?_⟩; replace BK150 := bl_ BK150 hb; replace BK151 := bl_ BK151 hb; replace HB := Aside0.mk (below_step (by repeat (with_reducible first | exact HB.out | apply pw_below_drewN | apply below_drew1 | refine below_set ?_ (Aside0.out (by assumption)))) hb); (try clear hb); (try clear hb2); (try clear hk); (try clear hi); have hcz10_0 : w9.cell? ⟨gb150, 0, none⟩ = some (.int .i64 a0_0) := (blk_cell BK150.out 0).trans rfl; have hcz10_1 : w9.cell? ⟨gb150, 1, none⟩ = some (.int .i64 a0_1) := (blk_cell BK150.out 1).trans rfl; have hcz10_2 : w9.cell? ⟨gb150, 2, none⟩ = some (.int .i64 a0_2) := (blk_cell BK150.out 2).trans rfl; have hcz10_3 : w9.cell? ⟨gb150, 3, none⟩ = some (.int .i64 a0_3) := (blk_cell BK150.out 3).trans rfl; have hcz10_4 : w9.cell? ⟨gb150, 4, none⟩ = some (.int .i64 a0_4) := (blk_cell BK150.out 4).trans rfl; have hcz10_5 : w9.cell? ⟨gb150, 5, none⟩ = some (.int .i64 a0_5) := (blk_cell BK150.out 5).trans rfl; have hfz10_0 := blk_frozen BK150.out 0; have hfz10_1 := blk_frozen BK150.out 1; have hfz10_2 := blk_frozen BK150.out 2; have hfz10_3 := blk_frozen BK150.out 3; have hfz10_4 := blk_frozen BK150.out 4; have hfz10_5 := blk_frozen BK150.out 5) | ((with_reducible refine gate_dst (N := 5) rfl ?_); refine box_event ?hg (N := 5) ?hd (cs := #[.int .i64 0, .int .i64 0, .int .i64 0, .int .i64 0, .int .i64 0, .int .i64 0]) (t := 87) ?hr ?_; (case hd => rfl); (case hg => rfl); (case hr => first | (go_simp; done) | (go_simp; rfl)); intro gb153 hg w11 hbox hb; have BK153 := Aside0.mk (hbox); have GW153 := Aside0.mk ((by rw [hg]; exact (below_size (by repeat (with_reducible first | exact HB.out | apply pw_below_drewN | apply below_drew1 | refine below_set ?_ (Aside0.out (by assumption))))) : w.heap.size ≤ gb153)); have GE153 := Aside0.mk ((by rw [hg]; exact (below_size (by repeat (with_reducible first | exact HB.out | apply pw_below_drewN | apply below_drew1 | refine below_set ?_ (Aside0.out (by assumption))))) : w.heap.size ≤ gb153)); replace HB := Aside0.mk (below_step (by repeat (with_reducible first | exact HB.out | apply pw_below_drewN | apply below_drew1 | refine below_set ?_ (Aside0.out (by assumption)))) hb); have NB150_153 := Aside0.mk ((by rw [hg]; exact Nat.ne_of_lt (blk_lt BK150.out) : gb150 ≠ gb153)); have NB153_150 := Aside0.mk ((by rw [hg]; exact Nat.ne_of_gt (blk_lt BK150.out) : gb153 ≠ gb150)); replace BK150 := bl_ BK150 hb; have NB151_153 := Aside0.mk ((by rw [hg]; exact Nat.ne_of_lt (blk_lt BK151.out) : gb151 ≠ gb153)); have NB153_151 := Aside0.mk ((by rw [hg]; exact Nat.ne_of_gt (blk_lt BK151.out) : gb153 ≠ gb151)); replace BK151 := bl_ BK151 hb; clear hb hbox hg; have hnb12 := NB153_150.out; have hnc12 := NB150_153.out; have hnb13 := NB153_151.out; have hnc13 := NB151_153.out; have hcz14_0 : w11.cell? ⟨gb153, 0, none⟩ = some (.int .i64 0) := (blk_cell BK153.out 0).trans rfl; have hcz14_1 : w11.cell? ⟨gb153, 1, none⟩ = some (.int .i64 0) := (blk_cell BK153.out 1).trans rfl; have hcz14_2 : w11.cell? ⟨gb153, 2, none⟩ = some (.int .i64 0) := (blk_cell BK153.out 2).trans rfl; have hcz14_3 : w11.cell? ⟨gb153, 3, none⟩ = some (.int .i64 0) := (blk_cell BK153.out 3).trans rfl; have hcz14_4 : w11.cell? ⟨gb153, 4, none⟩ = some (.int .i64 0) := (blk_cell BK153.out 4).trans rfl; have hcz14_5 : w11.cell? ⟨gb153, 5, none⟩ = some (.int .i64 0) := (blk_cell BK153.out 5).trans rfl; have hfz14_0 := blk_frozen BK153.out 0; have hfz14_1 := blk_frozen BK153.out 1; have hfz14_2 := blk_frozen BK153.out 2; have hfz14_3 := blk_frozen BK153.out 3; have hfz14_4 := blk_frozen BK153.out 4; have hfz14_5 := blk_frozen BK153.out 5))
  (try simp only [Act.put, List.setIfInBounds_toArray, List.set_cons_zero, List.set_cons_succ])
  go_loopg [] k (fun kq w' => ∃ (x154000_1 : Int) (x154001_1 : Int) (x154002_1 : Int) (x154003_1 : Int) (x154004_1 : Int) (x154005_1 : Int), Aside0 (alarm_Pass.l0 kq a1 x154000_1 x154001_1 x154002_1 x154003_1 x154004_1 x154005_1 = some (r1, r2, r3, r4, r5, r6)) ∧ Aside0 (kq ≤ k) ∧ Aside0 (w'.heap[gb150]? = some (.cells #[.int .i64 a0_0, .int .i64 a0_1, .int .i64 a0_2, .int .i64 a0_3, .int .i64 a0_4, .int .i64 a0_5] 28 (0, 0))) ∧ Aside0 (w'.heap[gb151]? = some (.cells #[.int .i64 0, .int .i64 0, .int .i64 0, .int .i64 0, .int .i64 0, .int .i64 0] 28 (0, 0))) ∧ Aside0 (w'.heap[gb153]? = some (.cells #[.int .i64 x154000_1, .int .i64 x154001_1, .int .i64 x154002_1, .int .i64 x154003_1, .int .i64 x154004_1, .int .i64 x154005_1] 87 (0, 0))) ∧ Aside0 (Below w.heap.size w w'))
  case atStart => exact ⟨(a0_0), (a0_1), (a0_2), (a0_3), (a0_4), (a0_5), H', ⟨Nat.le_refl _⟩, ⟨by (with_reducible repeat (first | refine blk_drewN ?_ _ | refine blk_drew ?_ | refine blk_alloc ?_ _)); refine blk_far ?_ NB150_153.out _; (with_reducible repeat (first | refine blk_drewN ?_ _ | refine blk_drew ?_ | refine blk_alloc ?_ _)); refine blk_far ?_ NB150_153.out _; (with_reducible repeat (first | refine blk_drewN ?_ _ | refine blk_drew ?_ | refine blk_alloc ?_ _)); refine blk_far ?_ NB150_153.out _; (with_reducible repeat (first | refine blk_drewN ?_ _ | refine blk_drew ?_ | refine blk_alloc ?_ _)); refine blk_far ?_ NB150_153.out _; (with_reducible repeat (first | refine blk_drewN ?_ _ | refine blk_drew ?_ | refine blk_alloc ?_ _)); refine blk_far ?_ NB150_153.out _; (with_reducible repeat (first | refine blk_drewN ?_ _ | refine blk_drew ?_ | refine blk_alloc ?_ _)); refine blk_far ?_ NB150_153.out _; (with_reducible repeat (first | refine blk_drewN ?_ _ | refine blk_drew ?_ | refine blk_alloc ?_ _)); exact BK150.out⟩, ⟨by (with_reducible repeat (first | refine blk_drewN ?_ _ | refine blk_drew ?_ | refine blk_alloc ?_ _)); refine blk_far ?_ NB151_153.out _; (with_reducible repeat (first | refine blk_drewN ?_ _ | refine blk_drew ?_ | refine blk_alloc ?_ _)); refine blk_far ?_ NB151_153.out _; (with_reducible repeat (first | refine blk_drewN ?_ _ | refine blk_drew ?_ | refine blk_alloc ?_ _)); refine blk_far ?_ NB151_153.out _; (with_reducible repeat (first | refine blk_drewN ?_ _ | refine blk_drew ?_ | refine blk_alloc ?_ _)); refine blk_far ?_ NB151_153.out _; (with_reducible repeat (first | refine blk_drewN ?_ _ | refine blk_drew ?_ | refine blk_alloc ?_ _)); refine blk_far ?_ NB151_153.out _; (with_reducible repeat (first | refine blk_drewN ?_ _ | refine blk_drew ?_ | refine blk_alloc ?_ _)); refine blk_far ?_ NB151_153.out _; (with_reducible repeat (first | refine blk_drewN ?_ _ | refine blk_drew ?_ | refine blk_alloc ?_ _)); exact BK151.out⟩, ⟨by (with_reducible repeat (first | refine blk_drewN ?_ _ | refine blk_drew ?_ | refine blk_alloc ?_ _)); refine blk_put (cs := #[.int .i64 a0_0, .int .i64 a0_1, .int .i64 a0_2, .int .i64 a0_3, .int .i64 a0_4, .int .i64 0]) ?_ 5 _ rfl; (with_reducible repeat (first | refine blk_drewN ?_ _ | refine blk_drew ?_ | refine blk_alloc ?_ _)); refine blk_put (cs := #[.int .i64 a0_0, .int .i64 a0_1, .int .i64 a0_2, .int .i64 a0_3, .int .i64 0, .int .i64 0]) ?_ 4 _ rfl; (with_reducible repeat (first | refine blk_drewN ?_ _ | refine blk_drew ?_ | refine blk_alloc ?_ _)); refine blk_put (cs := #[.int .i64 a0_0, .int .i64 a0_1, .int .i64 a0_2, .int .i64 0, .int .i64 0, .int .i64 0]) ?_ 3 _ rfl; (with_reducible repeat (first | refine blk_drewN ?_ _ | refine blk_drew ?_ | refine blk_alloc ?_ _)); refine blk_put (cs := #[.int .i64 a0_0, .int .i64 a0_1, .int .i64 0, .int .i64 0, .int .i64 0, .int .i64 0]) ?_ 2 _ rfl; (with_reducible repeat (first | refine blk_drewN ?_ _ | refine blk_drew ?_ | refine blk_alloc ?_ _)); refine blk_put (cs := #[.int .i64 a0_0, .int .i64 0, .int .i64 0, .int .i64 0, .int .i64 0, .int .i64 0]) ?_ 1 _ rfl; (with_reducible repeat (first | refine blk_drewN ?_ _ | refine blk_drew ?_ | refine blk_alloc ?_ _)); refine blk_put (cs := #[.int .i64 0, .int .i64 0, .int .i64 0, .int .i64 0, .int .i64 0, .int .i64 0]) ?_ 0 _ rfl; (with_reducible repeat (first | refine blk_drewN ?_ _ | refine blk_drew ?_ | refine blk_alloc ?_ _)); exact BK153.out⟩, ⟨by repeat (with_reducible first | exact HB.out | apply pw_below_drewN | apply below_drew1 | refine below_set ?_ (Aside0.out (by assumption)))⟩⟩
  case round =>
   clear H'
   try clear c1; try clear p2; try clear c3; try clear c4; try clear c5; try clear c7; try clear c12; try clear c13; try clear hcz10_0; try clear hcz10_1; try clear hcz10_2; try clear hcz10_3; try clear hcz10_4; try clear hcz10_5; try clear hcz14_0; try clear hcz14_1; try clear hcz14_2; try clear hcz14_3; try clear hcz14_4; try clear hcz14_5; try clear hcz8_0; try clear hcz8_1; try clear hcz8_2; try clear hcz8_3; try clear hcz8_4; try clear hcz8_5; try clear hfz10_0; try clear hfz10_1; try clear hfz10_2; try clear hfz10_3; try clear hfz10_4; try clear hfz10_5; try clear hfz14_0; try clear hfz14_1; try clear hfz14_2; try clear hfz14_3; try clear hfz14_4; try clear hfz14_5; try clear hfz8_0; try clear hfz8_1; try clear hfz8_2; try clear hfz8_3; try clear hfz8_4; try clear hfz8_5
   obtain ⟨x154000_1, x154001_1, x154002_1, x154003_1, x154004_1, x154005_1, HA, HK1, BK150, BK151, BK153, HB⟩ := hrel
   cases gk with
   | zero => exact absurd HA.out (by simp [alarm_Pass.l0])
   | succ k1 =>
    have H := HA.out
    clear HA
    simp only [alarm_Pass.l0] at H
    replace H := Option.bind_eq_some_iff.mp H
    obtain ⟨t154, A150, H⟩ := H
    try dsimp only at H
    have A15 := Aside0.mk A150
    clear A150
    by_cases c16 : t154 = true
    ·subst c16
     rw [if_pos rfl] at H; try dsimp only at H
     by_cases c17 : x154002_1 = 4
     ·rw [if_pos c17] at H
      have c17b0 : (x154002_1 == 4) = true := beq_iff_eq.mpr c17
      have c17b1 : (x154002_1 != 4) = false := bne_eq_false_iff_eq.mpr c17
      clear c17
      replace H := Option.bind_eq_some_iff.mp H
      obtain ⟨⟨t155, t156, t157, t158, t159, t160⟩, A180, H⟩ := H
      try dsimp only at H
      have A18 := Aside0.mk A180
      clear A180
      have H' := Aside0.mk H
      clear H
      have hnb19 := NB153_150.out
      have hnc19 := NB150_153.out
      have hnb20 := NB153_151.out
      have hnc20 := NB151_153.out
      have hcz21_0 : wr.cell? ⟨gb153, 0, none⟩ = some (.int .i64 x154000_1) := (blk_cell BK153.out 0).trans rfl
      have hcz21_1 : wr.cell? ⟨gb153, 1, none⟩ = some (.int .i64 x154001_1) := (blk_cell BK153.out 1).trans rfl
      have hcz21_2 : wr.cell? ⟨gb153, 2, none⟩ = some (.int .i64 x154002_1) := (blk_cell BK153.out 2).trans rfl
      have hcz21_3 : wr.cell? ⟨gb153, 3, none⟩ = some (.int .i64 x154003_1) := (blk_cell BK153.out 3).trans rfl
      have hcz21_4 : wr.cell? ⟨gb153, 4, none⟩ = some (.int .i64 x154004_1) := (blk_cell BK153.out 4).trans rfl
      have hcz21_5 : wr.cell? ⟨gb153, 5, none⟩ = some (.int .i64 x154005_1) := (blk_cell BK153.out 5).trans rfl
      have hfz21_0 := blk_frozen BK153.out 0
      have hfz21_1 := blk_frozen BK153.out 1
      have hfz21_2 := blk_frozen BK153.out 2
      have hfz21_3 := blk_frozen BK153.out 3
      have hfz21_4 := blk_frozen BK153.out 4
      have hfz21_5 := blk_frozen BK153.out 5
      go_wp2_with (first | ((with_reducible refine gate_callee (f := 66) rfl ?_); refine goesL_ (some 15) rfl rfl Try.func66 (by kernel_rfl) rfl #[.agg #[.int .i64 x154000_1, .int .i64 x154001_1, .int .i64 x154002_1, .int .i64 x154003_1, .int .i64 x154004_1, .int .i64 x154005_1], .int .i64 a1] rfl (by (try simp only [List.map_toArray, List.map_cons, List.map_nil]); first | done | rfl | (simp only [List.length_drop, List.length_take]; rfl)) ?_; (with_reducible refine (alarm_timed_due.calls x154000_1 x154001_1 x154002_1 x154003_1 x154004_1 x154005_1 a1 true _ A15.out).mono ?_); rintro e w22 ⟨rfl, hb⟩; refine ⟨_, rfl, ?_⟩; replace BK150 := bl_ BK150 hb; replace BK151 := bl_ BK151 hb; replace BK153 := bl_ BK153 hb; replace HB := Aside0.mk (below_step (by repeat (with_reducible first | exact HB.out | apply pw_below_drewN | apply below_drew1 | refine below_set ?_ (Aside0.out (by assumption)))) hb); (try clear hb); (try clear hb2); (try clear hk); (try clear hi); have hcz23_0 : w22.cell? ⟨gb153, 0, none⟩ = some (.int .i64 x154000_1) := (blk_cell BK153.out 0).trans rfl; have hcz23_1 : w22.cell? ⟨gb153, 1, none⟩ = some (.int .i64 x154001_1) := (blk_cell BK153.out 1).trans rfl; have hcz23_2 : w22.cell? ⟨gb153, 2, none⟩ = some (.int .i64 x154002_1) := (blk_cell BK153.out 2).trans rfl; have hcz23_3 : w22.cell? ⟨gb153, 3, none⟩ = some (.int .i64 x154003_1) := (blk_cell BK153.out 3).trans rfl; have hcz23_4 : w22.cell? ⟨gb153, 4, none⟩ = some (.int .i64 x154004_1) := (blk_cell BK153.out 4).trans rfl; have hcz23_5 : w22.cell? ⟨gb153, 5, none⟩ = some (.int .i64 x154005_1) := (blk_cell BK153.out 5).trans rfl; have hfz23_0 := blk_frozen BK153.out 0; have hfz23_1 := blk_frozen BK153.out 1; have hfz23_2 := blk_frozen BK153.out 2; have hfz23_3 := blk_frozen BK153.out 3; have hfz23_4 := blk_frozen BK153.out 4; have hfz23_5 := blk_frozen BK153.out 5) | ((with_reducible refine gate_callee (f := 67) rfl ?_); refine goesL_ (some 27) rfl rfl Try.func67 (by kernel_rfl) rfl #[.agg #[.int .i64 x154000_1, .int .i64 x154001_1, .int .i64 x154002_1, .int .i64 x154003_1, .int .i64 x154004_1, .int .i64 x154005_1], .int .i64 x154005_1, .int .i64 0] rfl (by (try simp only [List.map_toArray, List.map_cons, List.map_nil]); first | done | rfl | (simp only [List.length_drop, List.length_take]; rfl)) ?_; (with_reducible refine (alarm_clock_woken.calls x154000_1 x154001_1 x154002_1 x154003_1 x154004_1 x154005_1 x154005_1 0 t155 t156 t157 t158 t159 t160 _ A18.out).mono ?_); rintro e w24 ⟨rfl, hb⟩; refine ⟨_, rfl, ?_⟩; replace BK150 := bl_ BK150 hb; replace BK151 := bl_ BK151 hb; replace BK153 := bl_ BK153 hb; replace HB := Aside0.mk (below_step (by repeat (with_reducible first | exact HB.out | apply pw_below_drewN | apply below_drew1 | refine below_set ?_ (Aside0.out (by assumption)))) hb); (try clear hb); (try clear hb2); (try clear hk); (try clear hi); have hcz25_0 : w24.cell? ⟨gb153, 0, none⟩ = some (.int .i64 x154000_1) := (blk_cell BK153.out 0).trans rfl; have hcz25_1 : w24.cell? ⟨gb153, 1, none⟩ = some (.int .i64 x154001_1) := (blk_cell BK153.out 1).trans rfl; have hcz25_2 : w24.cell? ⟨gb153, 2, none⟩ = some (.int .i64 x154002_1) := (blk_cell BK153.out 2).trans rfl; have hcz25_3 : w24.cell? ⟨gb153, 3, none⟩ = some (.int .i64 x154003_1) := (blk_cell BK153.out 3).trans rfl; have hcz25_4 : w24.cell? ⟨gb153, 4, none⟩ = some (.int .i64 x154004_1) := (blk_cell BK153.out 4).trans rfl; have hcz25_5 : w24.cell? ⟨gb153, 5, none⟩ = some (.int .i64 x154005_1) := (blk_cell BK153.out 5).trans rfl; have hfz25_0 := blk_frozen BK153.out 0; have hfz25_1 := blk_frozen BK153.out 1; have hfz25_2 := blk_frozen BK153.out 2; have hfz25_3 := blk_frozen BK153.out 3; have hfz25_4 := blk_frozen BK153.out 4; have hfz25_5 := blk_frozen BK153.out 5))
      go_roundg k1
      case measure => have := HK1.out; omega
      case rel => exact ⟨(t155), (t156), (t157), (t158), (t159), (t160), H', ⟨by have := HK1.out; omega⟩, ⟨by (with_reducible repeat (first | refine blk_drewN ?_ _ | refine blk_drew ?_ | refine blk_alloc ?_ _)); refine blk_far ?_ NB150_153.out _; (with_reducible repeat (first | refine blk_drewN ?_ _ | refine blk_drew ?_ | refine blk_alloc ?_ _)); refine blk_far ?_ NB150_153.out _; (with_reducible repeat (first | refine blk_drewN ?_ _ | refine blk_drew ?_ | refine blk_alloc ?_ _)); refine blk_far ?_ NB150_153.out _; (with_reducible repeat (first | refine blk_drewN ?_ _ | refine blk_drew ?_ | refine blk_alloc ?_ _)); refine blk_far ?_ NB150_153.out _; (with_reducible repeat (first | refine blk_drewN ?_ _ | refine blk_drew ?_ | refine blk_alloc ?_ _)); refine blk_far ?_ NB150_153.out _; (with_reducible repeat (first | refine blk_drewN ?_ _ | refine blk_drew ?_ | refine blk_alloc ?_ _)); refine blk_far ?_ NB150_153.out _; (with_reducible repeat (first | refine blk_drewN ?_ _ | refine blk_drew ?_ | refine blk_alloc ?_ _)); exact BK150.out⟩, ⟨by (with_reducible repeat (first | refine blk_drewN ?_ _ | refine blk_drew ?_ | refine blk_alloc ?_ _)); refine blk_far ?_ NB151_153.out _; (with_reducible repeat (first | refine blk_drewN ?_ _ | refine blk_drew ?_ | refine blk_alloc ?_ _)); refine blk_far ?_ NB151_153.out _; (with_reducible repeat (first | refine blk_drewN ?_ _ | refine blk_drew ?_ | refine blk_alloc ?_ _)); refine blk_far ?_ NB151_153.out _; (with_reducible repeat (first | refine blk_drewN ?_ _ | refine blk_drew ?_ | refine blk_alloc ?_ _)); refine blk_far ?_ NB151_153.out _; (with_reducible repeat (first | refine blk_drewN ?_ _ | refine blk_drew ?_ | refine blk_alloc ?_ _)); refine blk_far ?_ NB151_153.out _; (with_reducible repeat (first | refine blk_drewN ?_ _ | refine blk_drew ?_ | refine blk_alloc ?_ _)); refine blk_far ?_ NB151_153.out _; (with_reducible repeat (first | refine blk_drewN ?_ _ | refine blk_drew ?_ | refine blk_alloc ?_ _)); exact BK151.out⟩, ⟨by (with_reducible repeat (first | refine blk_drewN ?_ _ | refine blk_drew ?_ | refine blk_alloc ?_ _)); refine blk_put (cs := #[.int .i64 t155, .int .i64 t156, .int .i64 t157, .int .i64 t158, .int .i64 t159, .int .i64 x154005_1]) ?_ 5 _ rfl; (with_reducible repeat (first | refine blk_drewN ?_ _ | refine blk_drew ?_ | refine blk_alloc ?_ _)); refine blk_put (cs := #[.int .i64 t155, .int .i64 t156, .int .i64 t157, .int .i64 t158, .int .i64 x154004_1, .int .i64 x154005_1]) ?_ 4 _ rfl; (with_reducible repeat (first | refine blk_drewN ?_ _ | refine blk_drew ?_ | refine blk_alloc ?_ _)); refine blk_put (cs := #[.int .i64 t155, .int .i64 t156, .int .i64 t157, .int .i64 x154003_1, .int .i64 x154004_1, .int .i64 x154005_1]) ?_ 3 _ rfl; (with_reducible repeat (first | refine blk_drewN ?_ _ | refine blk_drew ?_ | refine blk_alloc ?_ _)); refine blk_put (cs := #[.int .i64 t155, .int .i64 t156, .int .i64 x154002_1, .int .i64 x154003_1, .int .i64 x154004_1, .int .i64 x154005_1]) ?_ 2 _ rfl; (with_reducible repeat (first | refine blk_drewN ?_ _ | refine blk_drew ?_ | refine blk_alloc ?_ _)); refine blk_put (cs := #[.int .i64 t155, .int .i64 x154001_1, .int .i64 x154002_1, .int .i64 x154003_1, .int .i64 x154004_1, .int .i64 x154005_1]) ?_ 1 _ rfl; (with_reducible repeat (first | refine blk_drewN ?_ _ | refine blk_drew ?_ | refine blk_alloc ?_ _)); refine blk_put (cs := #[.int .i64 x154000_1, .int .i64 x154001_1, .int .i64 x154002_1, .int .i64 x154003_1, .int .i64 x154004_1, .int .i64 x154005_1]) ?_ 0 _ rfl; (with_reducible repeat (first | refine blk_drewN ?_ _ | refine blk_drew ?_ | refine blk_alloc ?_ _)); exact BK153.out⟩, ⟨by repeat (with_reducible first | exact HB.out | apply pw_below_drewN | apply below_drew1 | refine below_set ?_ (Aside0.out (by assumption)))⟩⟩
     ·rw [if_neg c17] at H
      have c17b0 : (x154002_1 == 4) = false := beq_eq_false_iff_ne.mpr c17
      have c17b1 : (x154002_1 != 4) = true := bne_iff_ne.mpr c17
      replace H := Option.bind_eq_some_iff.mp H
      obtain ⟨⟨t161, t162, t163, t164, t165, t166⟩, A260, H⟩ := H
      try dsimp only at H
      have A26 := Aside0.mk A260
      clear A260
      have H' := Aside0.mk H
      clear H
      have hnb27 := NB153_150.out
      have hnc27 := NB150_153.out
      have hnb28 := NB153_151.out
      have hnc28 := NB151_153.out
      have hcz29_0 : wr.cell? ⟨gb153, 0, none⟩ = some (.int .i64 x154000_1) := (blk_cell BK153.out 0).trans rfl
      have hcz29_1 : wr.cell? ⟨gb153, 1, none⟩ = some (.int .i64 x154001_1) := (blk_cell BK153.out 1).trans rfl
      have hcz29_2 : wr.cell? ⟨gb153, 2, none⟩ = some (.int .i64 x154002_1) := (blk_cell BK153.out 2).trans rfl
      have hcz29_3 : wr.cell? ⟨gb153, 3, none⟩ = some (.int .i64 x154003_1) := (blk_cell BK153.out 3).trans rfl
      have hcz29_4 : wr.cell? ⟨gb153, 4, none⟩ = some (.int .i64 x154004_1) := (blk_cell BK153.out 4).trans rfl
      have hcz29_5 : wr.cell? ⟨gb153, 5, none⟩ = some (.int .i64 x154005_1) := (blk_cell BK153.out 5).trans rfl
      have hfz29_0 := blk_frozen BK153.out 0
      have hfz29_1 := blk_frozen BK153.out 1
      have hfz29_2 := blk_frozen BK153.out 2
      have hfz29_3 := blk_frozen BK153.out 3
      have hfz29_4 := blk_frozen BK153.out 4
      have hfz29_5 := blk_frozen BK153.out 5
      go_wp2_with (first | ((with_reducible refine gate_callee (f := 66) rfl ?_); refine goesL_ (some 15) rfl rfl Try.func66 (by kernel_rfl) rfl #[.agg #[.int .i64 x154000_1, .int .i64 x154001_1, .int .i64 x154002_1, .int .i64 x154003_1, .int .i64 x154004_1, .int .i64 x154005_1], .int .i64 a1] rfl (by (try simp only [List.map_toArray, List.map_cons, List.map_nil]); first | done | rfl | (simp only [List.length_drop, List.length_take]; rfl)) ?_; (with_reducible refine (alarm_timed_due.calls x154000_1 x154001_1 x154002_1 x154003_1 x154004_1 x154005_1 a1 true _ A15.out).mono ?_); rintro e w30 ⟨rfl, hb⟩; refine ⟨_, rfl, ?_⟩; replace BK150 := bl_ BK150 hb; replace BK151 := bl_ BK151 hb; replace BK153 := bl_ BK153 hb; replace HB := Aside0.mk (below_step (by repeat (with_reducible first | exact HB.out | apply pw_below_drewN | apply below_drew1 | refine below_set ?_ (Aside0.out (by assumption)))) hb); (try clear hb); (try clear hb2); (try clear hk); (try clear hi); have hcz31_0 : w30.cell? ⟨gb153, 0, none⟩ = some (.int .i64 x154000_1) := (blk_cell BK153.out 0).trans rfl; have hcz31_1 : w30.cell? ⟨gb153, 1, none⟩ = some (.int .i64 x154001_1) := (blk_cell BK153.out 1).trans rfl; have hcz31_2 : w30.cell? ⟨gb153, 2, none⟩ = some (.int .i64 x154002_1) := (blk_cell BK153.out 2).trans rfl; have hcz31_3 : w30.cell? ⟨gb153, 3, none⟩ = some (.int .i64 x154003_1) := (blk_cell BK153.out 3).trans rfl; have hcz31_4 : w30.cell? ⟨gb153, 4, none⟩ = some (.int .i64 x154004_1) := (blk_cell BK153.out 4).trans rfl; have hcz31_5 : w30.cell? ⟨gb153, 5, none⟩ = some (.int .i64 x154005_1) := (blk_cell BK153.out 5).trans rfl; have hfz31_0 := blk_frozen BK153.out 0; have hfz31_1 := blk_frozen BK153.out 1; have hfz31_2 := blk_frozen BK153.out 2; have hfz31_3 := blk_frozen BK153.out 3; have hfz31_4 := blk_frozen BK153.out 4; have hfz31_5 := blk_frozen BK153.out 5) | ((with_reducible refine gate_callee (f := 68) rfl ?_); refine goesL_ (some 35) rfl rfl Try.func68 (by kernel_rfl) rfl #[.agg #[.int .i64 x154000_1, .int .i64 x154001_1, .int .i64 x154002_1, .int .i64 x154003_1, .int .i64 x154004_1, .int .i64 x154005_1], .int .i64 x154005_1, .int .i64 0] rfl (by (try simp only [List.map_toArray, List.map_cons, List.map_nil]); first | done | rfl | (simp only [List.length_drop, List.length_take]; rfl)) ?_; (with_reducible refine (alarm_clock_escalated.calls x154000_1 x154001_1 x154002_1 x154003_1 x154004_1 x154005_1 x154005_1 0 t161 t162 t163 t164 t165 t166 _ A26.out).mono ?_); rintro e w32 ⟨rfl, hb⟩; refine ⟨_, rfl, ?_⟩; replace BK150 := bl_ BK150 hb; replace BK151 := bl_ BK151 hb; replace BK153 := bl_ BK153 hb; replace HB := Aside0.mk (below_step (by repeat (with_reducible first | exact HB.out | apply pw_below_drewN | apply below_drew1 | refine below_set ?_ (Aside0.out (by assumption)))) hb); (try clear hb); (try clear hb2); (try clear hk); (try clear hi); have hcz33_0 : w32.cell? ⟨gb153, 0, none⟩ = some (.int .i64 x154000_1) := (blk_cell BK153.out 0).trans rfl; have hcz33_1 : w32.cell? ⟨gb153, 1, none⟩ = some (.int .i64 x154001_1) := (blk_cell BK153.out 1).trans rfl; have hcz33_2 : w32.cell? ⟨gb153, 2, none⟩ = some (.int .i64 x154002_1) := (blk_cell BK153.out 2).trans rfl; have hcz33_3 : w32.cell? ⟨gb153, 3, none⟩ = some (.int .i64 x154003_1) := (blk_cell BK153.out 3).trans rfl; have hcz33_4 : w32.cell? ⟨gb153, 4, none⟩ = some (.int .i64 x154004_1) := (blk_cell BK153.out 4).trans rfl; have hcz33_5 : w32.cell? ⟨gb153, 5, none⟩ = some (.int .i64 x154005_1) := (blk_cell BK153.out 5).trans rfl; have hfz33_0 := blk_frozen BK153.out 0; have hfz33_1 := blk_frozen BK153.out 1; have hfz33_2 := blk_frozen BK153.out 2; have hfz33_3 := blk_frozen BK153.out 3; have hfz33_4 := blk_frozen BK153.out 4; have hfz33_5 := blk_frozen BK153.out 5))
      go_roundg k1
      case measure => have := HK1.out; omega
      case rel => exact ⟨(t161), (t162), (t163), (t164), (t165), (t166), H', ⟨by have := HK1.out; omega⟩, ⟨by (with_reducible repeat (first | refine blk_drewN ?_ _ | refine blk_drew ?_ | refine blk_alloc ?_ _)); refine blk_far ?_ NB150_153.out _; (with_reducible repeat (first | refine blk_drewN ?_ _ | refine blk_drew ?_ | refine blk_alloc ?_ _)); refine blk_far ?_ NB150_153.out _; (with_reducible repeat (first | refine blk_drewN ?_ _ | refine blk_drew ?_ | refine blk_alloc ?_ _)); refine blk_far ?_ NB150_153.out _; (with_reducible repeat (first | refine blk_drewN ?_ _ | refine blk_drew ?_ | refine blk_alloc ?_ _)); refine blk_far ?_ NB150_153.out _; (with_reducible repeat (first | refine blk_drewN ?_ _ | refine blk_drew ?_ | refine blk_alloc ?_ _)); refine blk_far ?_ NB150_153.out _; (with_reducible repeat (first | refine blk_drewN ?_ _ | refine blk_drew ?_ | refine blk_alloc ?_ _)); refine blk_far ?_ NB150_153.out _; (with_reducible repeat (first | refine blk_drewN ?_ _ | refine blk_drew ?_ | refine blk_alloc ?_ _)); exact BK150.out⟩, ⟨by (with_reducible repeat (first | refine blk_drewN ?_ _ | refine blk_drew ?_ | refine blk_alloc ?_ _)); refine blk_far ?_ NB151_153.out _; (with_reducible repeat (first | refine blk_drewN ?_ _ | refine blk_drew ?_ | refine blk_alloc ?_ _)); refine blk_far ?_ NB151_153.out _; (with_reducible repeat (first | refine blk_drewN ?_ _ | refine blk_drew ?_ | refine blk_alloc ?_ _)); refine blk_far ?_ NB151_153.out _; (with_reducible repeat (first | refine blk_drewN ?_ _ | refine blk_drew ?_ | refine blk_alloc ?_ _)); refine blk_far ?_ NB151_153.out _; (with_reducible repeat (first | refine blk_drewN ?_ _ | refine blk_drew ?_ | refine blk_alloc ?_ _)); refine blk_far ?_ NB151_153.out _; (with_reducible repeat (first | refine blk_drewN ?_ _ | refine blk_drew ?_ | refine blk_alloc ?_ _)); refine blk_far ?_ NB151_153.out _; (with_reducible repeat (first | refine blk_drewN ?_ _ | refine blk_drew ?_ | refine blk_alloc ?_ _)); exact BK151.out⟩, ⟨by (with_reducible repeat (first | refine blk_drewN ?_ _ | refine blk_drew ?_ | refine blk_alloc ?_ _)); refine blk_put (cs := #[.int .i64 t161, .int .i64 t162, .int .i64 t163, .int .i64 t164, .int .i64 t165, .int .i64 x154005_1]) ?_ 5 _ rfl; (with_reducible repeat (first | refine blk_drewN ?_ _ | refine blk_drew ?_ | refine blk_alloc ?_ _)); refine blk_put (cs := #[.int .i64 t161, .int .i64 t162, .int .i64 t163, .int .i64 t164, .int .i64 x154004_1, .int .i64 x154005_1]) ?_ 4 _ rfl; (with_reducible repeat (first | refine blk_drewN ?_ _ | refine blk_drew ?_ | refine blk_alloc ?_ _)); refine blk_put (cs := #[.int .i64 t161, .int .i64 t162, .int .i64 t163, .int .i64 x154003_1, .int .i64 x154004_1, .int .i64 x154005_1]) ?_ 3 _ rfl; (with_reducible repeat (first | refine blk_drewN ?_ _ | refine blk_drew ?_ | refine blk_alloc ?_ _)); refine blk_put (cs := #[.int .i64 t161, .int .i64 t162, .int .i64 x154002_1, .int .i64 x154003_1, .int .i64 x154004_1, .int .i64 x154005_1]) ?_ 2 _ rfl; (with_reducible repeat (first | refine blk_drewN ?_ _ | refine blk_drew ?_ | refine blk_alloc ?_ _)); refine blk_put (cs := #[.int .i64 t161, .int .i64 x154001_1, .int .i64 x154002_1, .int .i64 x154003_1, .int .i64 x154004_1, .int .i64 x154005_1]) ?_ 1 _ rfl; (with_reducible repeat (first | refine blk_drewN ?_ _ | refine blk_drew ?_ | refine blk_alloc ?_ _)); refine blk_put (cs := #[.int .i64 x154000_1, .int .i64 x154001_1, .int .i64 x154002_1, .int .i64 x154003_1, .int .i64 x154004_1, .int .i64 x154005_1]) ?_ 0 _ rfl; (with_reducible repeat (first | refine blk_drewN ?_ _ | refine blk_drew ?_ | refine blk_alloc ?_ _)); exact BK153.out⟩, ⟨by repeat (with_reducible first | exact HB.out | apply pw_below_drewN | apply below_drew1 | refine below_set ?_ (Aside0.out (by assumption)))⟩⟩
    ·replace c16 := Bool.eq_false_iff.mpr c16
     subst c16
     rw [if_neg (show ¬ (false = true) by decide)] at H; try dsimp only at H
     simp only [Option.some.injEq, Prod.mk.injEq] at H
     obtain ⟨rfl, rfl, rfl, rfl, rfl, rfl⟩ := H
     have hnb34 := NB153_150.out
     have hnc34 := NB150_153.out
     have hnb35 := NB153_151.out
     have hnc35 := NB151_153.out
     have hcz36_0 : wr.cell? ⟨gb153, 0, none⟩ = some (.int .i64 x154000_1) := (blk_cell BK153.out 0).trans rfl
     have hcz36_1 : wr.cell? ⟨gb153, 1, none⟩ = some (.int .i64 x154001_1) := (blk_cell BK153.out 1).trans rfl
     have hcz36_2 : wr.cell? ⟨gb153, 2, none⟩ = some (.int .i64 x154002_1) := (blk_cell BK153.out 2).trans rfl
     have hcz36_3 : wr.cell? ⟨gb153, 3, none⟩ = some (.int .i64 x154003_1) := (blk_cell BK153.out 3).trans rfl
     have hcz36_4 : wr.cell? ⟨gb153, 4, none⟩ = some (.int .i64 x154004_1) := (blk_cell BK153.out 4).trans rfl
     have hcz36_5 : wr.cell? ⟨gb153, 5, none⟩ = some (.int .i64 x154005_1) := (blk_cell BK153.out 5).trans rfl
     have hfz36_0 := blk_frozen BK153.out 0
     have hfz36_1 := blk_frozen BK153.out 1
     have hfz36_2 := blk_frozen BK153.out 2
     have hfz36_3 := blk_frozen BK153.out 3
     have hfz36_4 := blk_frozen BK153.out 4
     have hfz36_5 := blk_frozen BK153.out 5
     go_wp2_with (first | ((with_reducible refine gate_callee (f := 66) rfl ?_); refine goesL_ (some 15) rfl rfl Try.func66 (by kernel_rfl) rfl #[.agg #[.int .i64 x154000_1, .int .i64 x154001_1, .int .i64 x154002_1, .int .i64 x154003_1, .int .i64 x154004_1, .int .i64 x154005_1], .int .i64 a1] rfl (by (try simp only [List.map_toArray, List.map_cons, List.map_nil]); first | done | rfl | (simp only [List.length_drop, List.length_take]; rfl)) ?_; (with_reducible refine (alarm_timed_due.calls x154000_1 x154001_1 x154002_1 x154003_1 x154004_1 x154005_1 a1 false _ A15.out).mono ?_); rintro e w37 ⟨rfl, hb⟩; refine ⟨_, rfl, ?_⟩; replace BK150 := bl_ BK150 hb; replace BK151 := bl_ BK151 hb; replace BK153 := bl_ BK153 hb; replace HB := Aside0.mk (below_step (by repeat (with_reducible first | exact HB.out | apply pw_below_drewN | apply below_drew1 | refine below_set ?_ (Aside0.out (by assumption)))) hb); (try clear hb); (try clear hb2); (try clear hk); (try clear hi); have hcz38_0 : w37.cell? ⟨gb153, 0, none⟩ = some (.int .i64 x154000_1) := (blk_cell BK153.out 0).trans rfl; have hcz38_1 : w37.cell? ⟨gb153, 1, none⟩ = some (.int .i64 x154001_1) := (blk_cell BK153.out 1).trans rfl; have hcz38_2 : w37.cell? ⟨gb153, 2, none⟩ = some (.int .i64 x154002_1) := (blk_cell BK153.out 2).trans rfl; have hcz38_3 : w37.cell? ⟨gb153, 3, none⟩ = some (.int .i64 x154003_1) := (blk_cell BK153.out 3).trans rfl; have hcz38_4 : w37.cell? ⟨gb153, 4, none⟩ = some (.int .i64 x154004_1) := (blk_cell BK153.out 4).trans rfl; have hcz38_5 : w37.cell? ⟨gb153, 5, none⟩ = some (.int .i64 x154005_1) := (blk_cell BK153.out 5).trans rfl; have hfz38_0 := blk_frozen BK153.out 0; have hfz38_1 := blk_frozen BK153.out 1; have hfz38_2 := blk_frozen BK153.out 2; have hfz38_3 := blk_frozen BK153.out 3; have hfz38_4 := blk_frozen BK153.out 4; have hfz38_5 := blk_frozen BK153.out 5; have hnb39 := NB151_150.out; have hnc39 := NB150_151.out; have hcz40_0 : w37.cell? ⟨gb151, 0, none⟩ = some (.int .i64 0) := (blk_cell BK151.out 0).trans rfl; have hcz40_1 : w37.cell? ⟨gb151, 1, none⟩ = some (.int .i64 0) := (blk_cell BK151.out 1).trans rfl; have hcz40_2 : w37.cell? ⟨gb151, 2, none⟩ = some (.int .i64 0) := (blk_cell BK151.out 2).trans rfl; have hcz40_3 : w37.cell? ⟨gb151, 3, none⟩ = some (.int .i64 0) := (blk_cell BK151.out 3).trans rfl; have hcz40_4 : w37.cell? ⟨gb151, 4, none⟩ = some (.int .i64 0) := (blk_cell BK151.out 4).trans rfl; have hcz40_5 : w37.cell? ⟨gb151, 5, none⟩ = some (.int .i64 0) := (blk_cell BK151.out 5).trans rfl; have hfz40_0 := blk_frozen BK151.out 0; have hfz40_1 := blk_frozen BK151.out 1; have hfz40_2 := blk_frozen BK151.out 2; have hfz40_3 := blk_frozen BK151.out 3; have hfz40_4 := blk_frozen BK151.out 4; have hfz40_5 := blk_frozen BK151.out 5))
     refine bodyPost_ret (results_cell_row rfl _ _ gb151 28 #[.int .i64 x154000_1, .int .i64 x154001_1, .int .i64 x154002_1, .int .i64 x154003_1, .int .i64 x154004_1, .int .i64 x154005_1] (0, 0) _ rfl (by refine blk_put (cs := #[.int .i64 x154000_1, .int .i64 x154001_1, .int .i64 x154002_1, .int .i64 x154003_1, .int .i64 x154004_1, .int .i64 0]) ?_ 5 _ rfl; refine blk_put (cs := #[.int .i64 x154000_1, .int .i64 x154001_1, .int .i64 x154002_1, .int .i64 x154003_1, .int .i64 0, .int .i64 0]) ?_ 4 _ rfl; refine blk_put (cs := #[.int .i64 x154000_1, .int .i64 x154001_1, .int .i64 x154002_1, .int .i64 0, .int .i64 0, .int .i64 0]) ?_ 3 _ rfl; refine blk_put (cs := #[.int .i64 x154000_1, .int .i64 x154001_1, .int .i64 0, .int .i64 0, .int .i64 0, .int .i64 0]) ?_ 2 _ rfl; refine blk_put (cs := #[.int .i64 x154000_1, .int .i64 0, .int .i64 0, .int .i64 0, .int .i64 0, .int .i64 0]) ?_ 1 _ rfl; refine blk_put (cs := #[.int .i64 0, .int .i64 0, .int .i64 0, .int .i64 0, .int .i64 0, .int .i64 0]) ?_ 0 _ rfl; exact BK151.out) Try.underlying28 rfl (by kernel_rfl)) rfl ?_
     exact ⟨by first | rfl | (simp [errW_none, errW_some] <;> rfl) | (simp [*, errW_none, errW_some] <;> rfl), by repeat (with_reducible first | exact HB.out | apply pw_below_drewN | apply below_drew1 | refine below_set ?_ (Aside0.out (by assumption)))⟩
 ·replace c4 := Bool.eq_false_iff.mpr c4
  subst c4
  rw [if_neg (show ¬ (false = true) by decide)] at H; try dsimp only at H
  simp only [Option.some.injEq, Prod.mk.injEq] at H
  obtain ⟨rfl, rfl, rfl, rfl, rfl, rfl⟩ := H
  go_enter Try.func34, Try.ntmps34
  go_wp2_with (first | ((with_reducible refine gate_dst (N := 2) rfl ?_); refine box_event ?hg (N := 2) ?hd (cs := #[.int .i64 a0_0, .int .i64 a0_1, .int .i64 a0_2, .int .i64 a0_3, .int .i64 a0_4, .int .i64 a0_5]) (t := 28) ?hr ?_; (case hd => rfl); (case hg => rfl); (case hr => first | (go_simp; done) | (go_simp; rfl)); intro gb150 hg w41 hbox hb; have BK150 := Aside0.mk (hbox); have GW150 := Aside0.mk ((by rw [hg]; exact (below_size HB.out) : w.heap.size ≤ gb150)); have GE150 := Aside0.mk ((by rw [hg]; exact (below_size HB.out) : w.heap.size ≤ gb150)); replace HB := Aside0.mk (below_step HB.out hb); clear hb hbox hg) | ((with_reducible refine gate_dst (N := 4) rfl ?_); refine box_event ?hg (N := 4) ?hd (cs := #[.int .i64 0, .int .i64 0, .int .i64 0, .int .i64 0, .int .i64 0, .int .i64 0]) (t := 28) ?hr ?_; (case hd => rfl); (case hg => rfl); (case hr => first | (go_simp; done) | (go_simp; rfl)); intro gb151 hg w42 hbox hb; have BK151 := Aside0.mk (hbox); have GW151 := Aside0.mk ((by rw [hg]; exact (below_size (by repeat (with_reducible first | exact HB.out | apply pw_below_drewN | apply below_drew1 | refine below_set ?_ GE150.out))) : w.heap.size ≤ gb151)); have GE151 := Aside0.mk ((by rw [hg]; exact (below_size (by repeat (with_reducible first | exact HB.out | apply pw_below_drewN | apply below_drew1 | refine below_set ?_ GE150.out))) : w.heap.size ≤ gb151)); replace HB := Aside0.mk (below_step (by repeat (with_reducible first | exact HB.out | apply pw_below_drewN | apply below_drew1 | refine below_set ?_ GE150.out)) hb); have NB150_151 := Aside0.mk ((by rw [hg]; exact Nat.ne_of_lt (blk_lt BK150.out) : gb150 ≠ gb151)); have NB151_150 := Aside0.mk ((by rw [hg]; exact Nat.ne_of_gt (blk_lt BK150.out) : gb151 ≠ gb150)); replace BK150 := bl_ BK150 hb; clear hb hbox hg; have hnb43 := NB150_151.out; have hnc43 := NB151_150.out; have hcz44_0 : w42.cell? ⟨gb150, 0, none⟩ = some (.int .i64 a0_0) := (blk_cell BK150.out 0).trans rfl; have hcz44_1 : w42.cell? ⟨gb150, 1, none⟩ = some (.int .i64 a0_1) := (blk_cell BK150.out 1).trans rfl; have hcz44_2 : w42.cell? ⟨gb150, 2, none⟩ = some (.int .i64 a0_2) := (blk_cell BK150.out 2).trans rfl; have hcz44_3 : w42.cell? ⟨gb150, 3, none⟩ = some (.int .i64 a0_3) := (blk_cell BK150.out 3).trans rfl; have hcz44_4 : w42.cell? ⟨gb150, 4, none⟩ = some (.int .i64 a0_4) := (blk_cell BK150.out 4).trans rfl; have hcz44_5 : w42.cell? ⟨gb150, 5, none⟩ = some (.int .i64 a0_5) := (blk_cell BK150.out 5).trans rfl; have hfz44_0 := blk_frozen BK150.out 0; have hfz44_1 := blk_frozen BK150.out 1; have hfz44_2 := blk_frozen BK150.out 2; have hfz44_3 := blk_frozen BK150.out 3; have hfz44_4 := blk_frozen BK150.out 4; have hfz44_5 := blk_frozen BK150.out 5) | ((with_reducible refine gate_callee (f := 50) rfl ?_); refine goesL_ (some 7) rfl rfl Try.func50 (by kernel_rfl) rfl #[.agg #[.int .i64 a0_0, .int .i64 a0_1, .int .i64 a0_2, .int .i64 a0_3, .int .i64 a0_4, .int .i64 a0_5]] rfl (by (try simp only [List.map_toArray, List.map_cons, List.map_nil]); first | done | rfl | (simp only [List.length_drop, List.length_take]; rfl)) ?_; (with_reducible refine (alarm_Is.calls a0_0 a0_1 a0_2 a0_3 a0_4 a0_5 false _ A3.out).mono ?_); rintro e w45 ⟨rfl, hb⟩; refine ⟨_, rfl, ?_⟩; replace BK150 := bl_ BK150 hb; replace BK151 := bl_ BK151 hb; replace HB := Aside0.mk (below_step (by repeat (with_reducible first | exact HB.out | apply pw_below_drewN | apply below_drew1 | refine below_set ?_ (Aside0.out (by assumption)))) hb); (try clear hb); (try clear hb2); (try clear hk); (try clear hi); have hcz46_0 : w45.cell? ⟨gb150, 0, none⟩ = some (.int .i64 a0_0) := (blk_cell BK150.out 0).trans rfl; have hcz46_1 : w45.cell? ⟨gb150, 1, none⟩ = some (.int .i64 a0_1) := (blk_cell BK150.out 1).trans rfl; have hcz46_2 : w45.cell? ⟨gb150, 2, none⟩ = some (.int .i64 a0_2) := (blk_cell BK150.out 2).trans rfl; have hcz46_3 : w45.cell? ⟨gb150, 3, none⟩ = some (.int .i64 a0_3) := (blk_cell BK150.out 3).trans rfl; have hcz46_4 : w45.cell? ⟨gb150, 4, none⟩ = some (.int .i64 a0_4) := (blk_cell BK150.out 4).trans rfl; have hcz46_5 : w45.cell? ⟨gb150, 5, none⟩ = some (.int .i64 a0_5) := (blk_cell BK150.out 5).trans rfl; have hfz46_0 := blk_frozen BK150.out 0; have hfz46_1 := blk_frozen BK150.out 1; have hfz46_2 := blk_frozen BK150.out 2; have hfz46_3 := blk_frozen BK150.out 3; have hfz46_4 := blk_frozen BK150.out 4; have hfz46_5 := blk_frozen BK150.out 5; have hcz47_0 : w45.cell? ⟨gb151, 0, none⟩ = some (.int .i64 0) := (blk_cell BK151.out 0).trans rfl; have hcz47_1 : w45.cell? ⟨gb151, 1, none⟩ = some (.int .i64 0) := (blk_cell BK151.out 1).trans rfl; have hcz47_2 : w45.cell? ⟨gb151, 2, none⟩ = some (.int .i64 0) := (blk_cell BK151.out 2).trans rfl; have hcz47_3 : w45.cell? ⟨gb151, 3, none⟩ = some (.int .i64 0) := (blk_cell BK151.out 3).trans rfl; have hcz47_4 : w45.cell? ⟨gb151, 4, none⟩ = some (.int .i64 0) := (blk_cell BK151.out 4).trans rfl; have hcz47_5 : w45.cell? ⟨gb151, 5, none⟩ = some (.int .i64 0) := (blk_cell BK151.out 5).trans rfl; have hfz47_0 := blk_frozen BK151.out 0; have hfz47_1 := blk_frozen BK151.out 1; have hfz47_2 := blk_frozen BK151.out 2; have hfz47_3 := blk_frozen BK151.out 3; have hfz47_4 := blk_frozen BK151.out 4; have hfz47_5 := blk_frozen BK151.out 5))
  refine bodyPost_ret (results_cell_row rfl _ _ gb151 28 #[.int .i64 a0_0, .int .i64 a0_1, .int .i64 a0_2, .int .i64 a0_3, .int .i64 a0_4, .int .i64 a0_5] (0, 0) _ rfl (by refine blk_put (cs := #[.int .i64 a0_0, .int .i64 a0_1, .int .i64 a0_2, .int .i64 a0_3, .int .i64 a0_4, .int .i64 0]) ?_ 5 _ rfl; refine blk_put (cs := #[.int .i64 a0_0, .int .i64 a0_1, .int .i64 a0_2, .int .i64 a0_3, .int .i64 0, .int .i64 0]) ?_ 4 _ rfl; refine blk_put (cs := #[.int .i64 a0_0, .int .i64 a0_1, .int .i64 a0_2, .int .i64 0, .int .i64 0, .int .i64 0]) ?_ 3 _ rfl; refine blk_put (cs := #[.int .i64 a0_0, .int .i64 a0_1, .int .i64 0, .int .i64 0, .int .i64 0, .int .i64 0]) ?_ 2 _ rfl; refine blk_put (cs := #[.int .i64 a0_0, .int .i64 0, .int .i64 0, .int .i64 0, .int .i64 0, .int .i64 0]) ?_ 1 _ rfl; refine blk_put (cs := #[.int .i64 0, .int .i64 0, .int .i64 0, .int .i64 0, .int .i64 0, .int .i64 0]) ?_ 0 _ rfl; exact BK151.out) Try.underlying28 rfl (by kernel_rfl)) rfl ?_
  exact ⟨by first | rfl | (simp [errW_none, errW_some] <;> rfl) | (simp [*, errW_none, errW_some] <;> rfl), by repeat (with_reducible first | exact HB.out | apply pw_below_drewN | apply below_drew1 | refine below_set ?_ (Aside0.out (by assumption)))⟩

end Go.Proofs.Ytcfpbmdndapeaaa.F
