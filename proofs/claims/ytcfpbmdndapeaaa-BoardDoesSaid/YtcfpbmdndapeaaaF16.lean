-- Written by a program of this session (xprint.py), out of the translation and of contracts proved by hand.
import Derived.Test.YtcfpbmdndapeaaaF0
import Derived.Test.YtcfpbmdndapeaaaF8
import Derived.Test.YtcfpbmdndapeaaaF15
namespace Go.Proofs.Ytcfpbmdndapeaaa.F
open Go.RowKit Go.Proofs.YtcfpbmdndapeaaaV.PrintWords Go.Proofs.YtcfpbmdndapeaaaV.PrintLast Go.Proofs.YtcfpbmdndapeaaaV.PrintMore
attribute [local go_sem] max2_int min2_int max_two min_two max_three min_three max_four min_four   -- for this text's walks alone
set_option linter.unusedVariables false
set_option linter.unusedSimpArgs false

/-! ### watchmanref06_turn: function 88 -/
def watchmanref06_turn.f (k : Nat) (a0_0 : Int) (a0_1 : Int) (a0_2 : Int) (a0_3 : Int) (a0_4 : Int) (a0_5 : Int) (a1 : Int) (a2 : Int) (a3 : Int) : Option (Int × Int × Int × Int × Int × Int) := (watchmanref05_Next.f k a0_2 a1).bind fun t => if a1 = 4 then some (a0_0, a0_1, t.1, a0_3, a0_4, wrap64 (a2 + a3)) else if a1 = 6 then (watchmanref06_Wait.f a0_3).bind fun s => some (a0_0, a0_1, t.1, a0_3, a0_4, wrap64 (a2 + s)) else some (a0_0, a0_1, t.1, a0_3, a0_4, a2)
theorem watchmanref06_turn.mono : ∀ a0 a1 a2 a3 a4 a5 a6 a7 a8 k, LeO (watchmanref06_turn.f k a0 a1 a2 a3 a4 a5 a6 a7 a8) (watchmanref06_turn.f (k + 1) a0 a1 a2 a3 a4 a5 a6 a7 a8) := by
  intro a0 a1 a2 a3 a4 a5 a6 a7 a8 k
  unfold watchmanref06_turn.f
  exact LeO.bind (watchmanref05_Next.mono _ _ _) (fun _ => LeO.refl _)
theorem watchmanref06_turn.first {w w1 : World} {X Y : Obj} (hb : Below ((w.alloc X).alloc Y).heap.size ((w.alloc X).alloc Y) w1) :
    Below w.heap.size w w1 ∧ w1.heap[w.heap.size]? = some X ∧ w1.heap[w.heap.size + 1]? = some Y := by
  refine ⟨below_then (below_alloc (below_alloc (Below.refl w.heap.size w) _) _) (by simp; omega) hb, blk_below (blk_alloc (blk_new w X) Y) hb, blk_below ?_ hb⟩
  have h_ := blk_new (w.alloc X) Y
  rw [show (w.alloc X).heap.size = w.heap.size + 1 from by simp] at h_
  exact h_
theorem watchmanref06_turn.c6 {w1 : World} {g t : Nat} {a0 a1 a2 a3 a4 a5 : Int} (h : w1.heap[g]? = some (.cells #[.int .i64 a0, .int .i64 a1, .int .i64 a2, .int .i64 a3, .int .i64 a4, .int .i64 a5] t (0, 0))) :
    (w1.cell? ⟨g, 0, none⟩ = some (.int .i64 a0) ∧ w1.cell? ⟨g, 1, none⟩ = some (.int .i64 a1) ∧ w1.cell? ⟨g, 2, none⟩ = some (.int .i64 a2) ∧ w1.cell? ⟨g, 3, none⟩ = some (.int .i64 a3) ∧ w1.cell? ⟨g, 4, none⟩ = some (.int .i64 a4) ∧ w1.cell? ⟨g, 5, none⟩ = some (.int .i64 a5)) ∧
    (w1.frozen? ⟨g, 0, none⟩ = false ∧ w1.frozen? ⟨g, 1, none⟩ = false ∧ w1.frozen? ⟨g, 2, none⟩ = false ∧ w1.frozen? ⟨g, 3, none⟩ = false ∧ w1.frozen? ⟨g, 4, none⟩ = false ∧ w1.frozen? ⟨g, 5, none⟩ = false) :=
  ⟨⟨(blk_cell h 0).trans rfl, (blk_cell h 1).trans rfl, (blk_cell h 2).trans rfl, (blk_cell h 3).trans rfl, (blk_cell h 4).trans rfl, (blk_cell h 5).trans rfl⟩, ⟨blk_frozen h 0, blk_frozen h 1, blk_frozen h 2, blk_frozen h 3, blk_frozen h 4, blk_frozen h 5⟩⟩
theorem watchmanref06_turn.put6 {w1 : World} {g t : Nat} {z : Value} {v0 v1 v2 v3 v4 v5 : Value} (h : w1.heap[g]? = some (.cells #[z, z, z, z, z, z] t (0, 0))) :
    ((((((w1.setCell ⟨g, 0, none⟩ v0).setCell ⟨g, 1, none⟩ v1).setCell ⟨g, 2, none⟩ v2).setCell ⟨g, 3, none⟩ v3).setCell ⟨g, 4, none⟩ v4).setCell ⟨g, 5, none⟩ v5).heap[g]? = some (.cells #[v0, v1, v2, v3, v4, v5] t (0, 0)) :=
  blk_put (cs := #[v0, v1, v2, v3, v4, z]) (blk_put (cs := #[v0, v1, v2, v3, z, z]) (blk_put (cs := #[v0, v1, v2, z, z, z]) (blk_put (cs := #[v0, v1, z, z, z, z]) (blk_put (cs := #[v0, z, z, z, z, z]) (blk_put h 0 _ rfl) 1 _ rfl) 2 _ rfl) 3 _ rfl) 4 _ rfl) 5 _ rfl
theorem watchmanref06_turn.twice {w1 : World} {g : Nat} {z : Value} (h : w1.cell? ⟨g, 5, none⟩ = some z) (a u v : Value) : (((w1.setCell ⟨g, 2, none⟩ a).setCell ⟨g, 5, none⟩ u).setCell ⟨g, 5, none⟩ v).cell? ⟨g, 5, none⟩ = some v :=
  World.cell?_setCell_same _ _ _ (World.cell?_setCell_same _ _ _ ((World.cell?_setCell_other _ _ _ _ (by simp)).trans h))
theorem watchmanref06_turn.twice2 {w1 : World} {g : Nat} {z : Value} (h : w1.cell? ⟨g, 5, none⟩ = some z) (n : Nat) (a u v : Value) : ((((w1.setCell ⟨g, 2, none⟩ a).setCell ⟨g, 5, none⟩ u).drewN n).setCell ⟨g, 5, none⟩ v).cell? ⟨g, 5, none⟩ = some v :=
  World.cell?_setCell_same _ _ _ (show ((w1.setCell ⟨g, 2, none⟩ a).setCell ⟨g, 5, none⟩ u).cell? ⟨g, 5, none⟩ = some u from World.cell?_setCell_same _ _ _ ((World.cell?_setCell_other _ _ _ _ (by simp)).trans h))
set_option maxHeartbeats 8000000 in
set_option maxRecDepth 100000 in
theorem watchmanref06_turn.go (a0_0 a0_1 a0_2 a0_3 a0_4 a0_5 a1 a2 a3 q x s : Int) (b : Bool) (w : World) (b4 b6 : Bool) (h4 : (a1 == 4) = b4) (h6 : (a1 == 6) = b6) (hx : x = if b4 = true then wrap64 (a2 + a3) else if b6 = true then wrap64 (a2 + s) else a2) (h46 : b4 = true → b6 = false)
    (HN : Aside0 (∀ w, Calls Try.prog 101 #[.int .i64 a0_2, .int .i64 a1] w fun e w' => e = .returned (.tuple #[.int .i64 q, .bool b]) ∧ Below w.heap.size w w')) (HW : Aside0 (∀ w, Calls Try.prog 71 #[.int .i64 a0_3] w fun e w' => e = .returned (.int .i64 s) ∧ Drawn0 w w')) :
    Calls Try.prog 88 #[.agg #[.int .i64 a0_0, .int .i64 a0_1, .int .i64 a0_2, .int .i64 a0_3, .int .i64 a0_4, .int .i64 a0_5], .int .i64 a1, .int .i64 a2, .int .i64 a3] w fun e w' => e = .returned (.agg #[.int .i64 a0_0, .int .i64 a0_1, .int .i64 q, .int .i64 a0_3, .int .i64 a0_4, .int .i64 x]) ∧ Below w.heap.size w w' := by
  cases b4 with
  | true =>
    have hb6 := h46 rfl
    subst hb6
    rw [if_pos rfl] at hx
    subst hx
    clear h46
    go_enter Try.func88, Try.ntmps88
    go_wp2_with (go_at_call 101; refine (HN.out _).mono ?_; rintro e w1 ⟨rfl, hd⟩; obtain ⟨q0, q1, q2⟩ := watchmanref06_turn.first hd; have HB := Aside0.mk q0; have K0 := Aside0.mk q1; have K1 := Aside0.mk q2; clear q0 q1 q2 hd; obtain ⟨⟨hc0, hc1, hc2, hc3, hc4, hc5⟩, hf0, hf1, hf2, hf3, hf4, hf5⟩ := watchmanref06_turn.c6 K0.out; obtain ⟨⟨hz0, hz1, hz2, hz3, hz4, hz5⟩, hg0, hg1, hg2, hg3, hg4, hg5⟩ := watchmanref06_turn.c6 K1.out; have hss := watchmanref06_turn.twice hc5; have hst := watchmanref06_turn.twice2 hc5)
    refine bodyPost_ret (results_cell_row rfl _ _ (w.heap.size + 1) 28 #[.int .i64 a0_0, .int .i64 a0_1, .int .i64 q, .int .i64 a0_3, .int .i64 a0_4, .int .i64 (wrap64 (a2 + a3))] (0, 0) _ rfl (by (with_reducible repeat (first | refine blk_drewN ?_ _)); refine watchmanref06_turn.put6 (z := .int .i64 0) ?_; (with_reducible repeat (first | refine blk_drewN ?_ _ | refine blk_far ?_ (by show w.heap.size + 1 ≠ w.heap.size; omega) _)); exact K1.out) Try.underlying28 rfl (by kernel_rfl)) rfl ?_
    exact ⟨rfl, by repeat (first | (with_reducible first | exact HB.out | apply pw_below_drewN | refine below_set ?_ (Nat.le_succ _) | refine below_set ?_ (Nat.le_refl _)) | exact HB.out)⟩
  | false =>
    rw [if_neg (by simp)] at hx
    clear h46
    cases b6 with
    | true =>
      rw [if_pos rfl] at hx
      subst hx
      go_enter Try.func88, Try.ntmps88
      go_wp2_with (first | (go_at_call 101; refine (HN.out _).mono ?_; rintro e w1 ⟨rfl, hd⟩; obtain ⟨q0, q1, q2⟩ := watchmanref06_turn.first hd; have HB := Aside0.mk q0; have K0 := Aside0.mk q1; have K1 := Aside0.mk q2; clear q0 q1 q2 hd; obtain ⟨⟨hc0, hc1, hc2, hc3, hc4, hc5⟩, hf0, hf1, hf2, hf3, hf4, hf5⟩ := watchmanref06_turn.c6 K0.out; obtain ⟨⟨hz0, hz1, hz2, hz3, hz4, hz5⟩, hg0, hg1, hg2, hg3, hg4, hg5⟩ := watchmanref06_turn.c6 K1.out; have hss := watchmanref06_turn.twice hc5; have hst := watchmanref06_turn.twice2 hc5) | (go_at_call 71; refine (HW.out _).mono ?_; rintro e w2 ⟨rfl, ⟨n2, rfl⟩⟩))
      refine bodyPost_ret (results_cell_row rfl _ _ (w.heap.size + 1) 28 #[.int .i64 a0_0, .int .i64 a0_1, .int .i64 q, .int .i64 a0_3, .int .i64 a0_4, .int .i64 (wrap64 (a2 + s))] (0, 0) _ rfl (by (with_reducible repeat (first | refine blk_drewN ?_ _)); refine watchmanref06_turn.put6 (z := .int .i64 0) ?_; (with_reducible repeat (first | refine blk_drewN ?_ _ | refine blk_far ?_ (by show w.heap.size + 1 ≠ w.heap.size; omega) _)); exact K1.out) Try.underlying28 rfl (by kernel_rfl)) rfl ?_
      exact ⟨rfl, by repeat (first | (with_reducible first | exact HB.out | apply pw_below_drewN | refine below_set ?_ (Nat.le_succ _) | refine below_set ?_ (Nat.le_refl _)) | exact HB.out)⟩
    | false =>
      rw [if_neg (by simp)] at hx
      subst hx
      go_enter Try.func88, Try.ntmps88
      go_wp2_with (go_at_call 101; refine (HN.out _).mono ?_; rintro e w1 ⟨rfl, hd⟩; obtain ⟨q0, q1, q2⟩ := watchmanref06_turn.first hd; have HB := Aside0.mk q0; have K0 := Aside0.mk q1; have K1 := Aside0.mk q2; clear q0 q1 q2 hd; obtain ⟨⟨hc0, hc1, hc2, hc3, hc4, hc5⟩, hf0, hf1, hf2, hf3, hf4, hf5⟩ := watchmanref06_turn.c6 K0.out; obtain ⟨⟨hz0, hz1, hz2, hz3, hz4, hz5⟩, hg0, hg1, hg2, hg3, hg4, hg5⟩ := watchmanref06_turn.c6 K1.out; have hss := watchmanref06_turn.twice hc5; have hst := watchmanref06_turn.twice2 hc5)
      refine bodyPost_ret (results_cell_row rfl _ _ (w.heap.size + 1) 28 #[.int .i64 a0_0, .int .i64 a0_1, .int .i64 q, .int .i64 a0_3, .int .i64 a0_4, .int .i64 x] (0, 0) _ rfl (by (with_reducible repeat (first | refine blk_drewN ?_ _)); refine watchmanref06_turn.put6 (z := .int .i64 0) ?_; (with_reducible repeat (first | refine blk_drewN ?_ _ | refine blk_far ?_ (by show w.heap.size + 1 ≠ w.heap.size; omega) _)); exact K1.out) Try.underlying28 rfl (by kernel_rfl)) rfl ?_
      exact ⟨rfl, by repeat (first | (with_reducible first | exact HB.out | apply pw_below_drewN | refine below_set ?_ (Nat.le_succ _) | refine below_set ?_ (Nat.le_refl _)) | exact HB.out)⟩
theorem watchmanref06_turn.calls (k : Nat) (a0_0 : Int) (a0_1 : Int) (a0_2 : Int) (a0_3 : Int) (a0_4 : Int) (a0_5 : Int) (a1 : Int) (a2 : Int) (a3 : Int) (r1 : Int) (r2 : Int) (r3 : Int) (r4 : Int) (r5 : Int) (r6 : Int) (w : World) (h : watchmanref06_turn.f k a0_0 a0_1 a0_2 a0_3 a0_4 a0_5 a1 a2 a3 = some (r1, r2, r3, r4, r5, r6)) :
    Calls Try.prog 88 #[.agg #[.int .i64 a0_0, .int .i64 a0_1, .int .i64 a0_2, .int .i64 a0_3, .int .i64 a0_4, .int .i64 a0_5], .int .i64 a1, .int .i64 a2, .int .i64 a3] w fun e w' => e = .returned (.agg #[.int .i64 r1, .int .i64 r2, .int .i64 r3, .int .i64 r4, .int .i64 r5, .int .i64 r6]) ∧ Below w.heap.size w w' := by
  obtain ⟨⟨q, b⟩, A1, h⟩ := Option.bind_eq_some_iff.mp h
  have HN := Aside0.mk (fun w => watchmanref05_Next.calls k a0_2 a1 q b w A1)
  obtain ⟨s, hs⟩ : ∃ s, watchmanref06_Wait.f a0_3 = some s := by
    unfold watchmanref06_Wait.f
    split
    · exact ⟨_, rfl⟩
    · split
      · exact ⟨_, rfl⟩
      · split <;> exact ⟨_, rfl⟩
  have HW := Aside0.mk (fun w => watchmanref06_Wait.calls a0_3 s w hs)
  by_cases h4 : a1 = 4
  · rw [if_pos h4] at h
    simp only [Option.some.injEq, Prod.mk.injEq] at h
    obtain ⟨rfl, rfl, rfl, rfl, rfl, rfl⟩ := h
    exact watchmanref06_turn.go _ _ _ _ _ _ a1 a2 a3 _ _ s b w true false (beq_iff_eq.mpr h4) (beq_eq_false_iff_ne.mpr (by omega)) rfl (fun _ => rfl) HN HW
  · rw [if_neg h4] at h
    by_cases h6 : a1 = 6
    · rw [if_pos h6, hs] at h
      simp only [Option.bind_some, Option.some.injEq, Prod.mk.injEq] at h
      obtain ⟨rfl, rfl, rfl, rfl, rfl, rfl⟩ := h
      exact watchmanref06_turn.go _ _ _ _ _ _ a1 a2 a3 _ _ s b w false true (beq_eq_false_iff_ne.mpr h4) (beq_iff_eq.mpr h6) rfl (fun h_ => absurd h_ (by simp)) HN HW
    · rw [if_neg h6] at h
      simp only [Option.some.injEq, Prod.mk.injEq] at h
      obtain ⟨rfl, rfl, rfl, rfl, rfl, rfl⟩ := h
      exact watchmanref06_turn.go _ _ _ _ _ _ a1 a2 a3 _ _ s b w false false (beq_eq_false_iff_ne.mpr h4) (beq_eq_false_iff_ne.mpr h6) rfl (fun h_ => absurd h_ (by simp)) HN HW

/-! ### watchmanref06_Pass: function 57 -/
mutual
def watchmanref06_Pass.l0 : Nat → Int → Int → Int → Int → Int → Int → Int → Int → Option (Int × Int × Int × Int × Int × Int)
 | 0, _, _, _, _, _, _, _, _ => none
 | k + 1, x1, x5, x301000, x301001, x301002, x301003, x301004, x301005 => if x5 < 3 then (if x301002 = 4 then (watchmanref06_Pass.j1 k x1 x5 (decide (x301005 ≤ x1)) x301000 x301001 x301002 x301003 x301004 x301005) else (watchmanref06_Pass.j1 k x1 x5 false x301000 x301001 x301002 x301003 x301004 x301005)) else (some (x301000, x301001, x301002, x301003, x301004, x301005))
def watchmanref06_Pass.j1 : Nat → Int → Int → Bool → Int → Int → Int → Int → Int → Int → Option (Int × Int × Int × Int × Int × Int)
 | 0, _, _, _, _, _, _, _, _, _ => none
 | k + 1, x1, x5, x22, x301000, x301001, x301002, x301003, x301004, x301005 => if x22 = true then ((watchmanref06_turn.f k x301000 x301001 x301002 x301003 x301004 x301005 6 x301005 0).bind fun bt303 => (watchmanref06_Pass.l0 k x1 (wrap64 (x5 + 1)) bt303.1 bt303.2.1 bt303.2.2.1 bt303.2.2.2.1 bt303.2.2.2.2.1 bt303.2.2.2.2.2)) else (if x301002 = 1 then (if x301005 ≤ x1 then ((watchmanref06_turn.f k x301000 x301001 x301002 x301003 x301004 x301005 2 x301005 0).bind fun bt309 => (watchmanref06_Pass.l0 k x1 (wrap64 (x5 + 1)) bt309.1 bt309.2.1 bt309.2.2.1 bt309.2.2.2.1 bt309.2.2.2.2.1 bt309.2.2.2.2.2)) else (watchmanref06_Pass.l0 k x1 (wrap64 (x5 + 1)) x301000 x301001 x301002 x301003 x301004 x301005)) else (watchmanref06_Pass.l0 k x1 (wrap64 (x5 + 1)) x301000 x301001 x301002 x301003 x301004 x301005))
end
def watchmanref06_Pass.f (k : Nat) (a0_0 : Int) (a0_1 : Int) (a0_2 : Int) (a0_3 : Int) (a0_4 : Int) (a0_5 : Int) (a1 : Int) : Option (Int × Int × Int × Int × Int × Int) := (watchmanref06_Is.f a0_0 a0_1 a0_2 a0_3 a0_4 a0_5).bind fun t302 => (if t302 = true then (watchmanref06_Pass.l0 k a1 0 a0_0 a0_1 a0_2 a0_3 a0_4 a0_5) else (some (a0_0, a0_1, a0_2, a0_3, a0_4, a0_5)))
theorem watchmanref06_Pass.mono_l : ∀ k, (∀ y0 y1 y2 y3 y4 y5 y6 y7, LeO (watchmanref06_Pass.l0 k y0 y1 y2 y3 y4 y5 y6 y7) (watchmanref06_Pass.l0 (k + 1) y0 y1 y2 y3 y4 y5 y6 y7)) ∧ (∀ y0 y1 y2 y3 y4 y5 y6 y7 y8, LeO (watchmanref06_Pass.j1 k y0 y1 y2 y3 y4 y5 y6 y7 y8) (watchmanref06_Pass.j1 (k + 1) y0 y1 y2 y3 y4 y5 y6 y7 y8))
 | 0 => ⟨fun _ _ _ _ _ _ _ _ r h => by simp [watchmanref06_Pass.l0] at h, fun _ _ _ _ _ _ _ _ _ r h => by simp [watchmanref06_Pass.j1] at h⟩
 | k + 1 => by
  obtain ⟨ih0, ih1⟩ := watchmanref06_Pass.mono_l k
  refine ⟨?_, ?_⟩
  ·intro y0 y1 y2 y3 y4 y5 y6 y7
   unfold watchmanref06_Pass.l0
   repeat' first
   | (with_reducible exact ih0 _ _ _ _ _ _ _ _)
   | (with_reducible exact ih1 _ _ _ _ _ _ _ _ _)
   | (with_reducible exact watchmanref06_turn.mono _ _ _ _ _ _ _ _ _ _)
   | (with_reducible exact LeO.refl _)
   | (with_reducible exact LeO.none _)
   | (with_reducible refine LeO.ite ?_ ?_)
   | (with_reducible refine LeO.bind ?_ (fun _ => ?_))
   | exact ih0 _ _ _ _ _ _ _ _
   | exact ih1 _ _ _ _ _ _ _ _ _
   | exact watchmanref06_turn.mono _ _ _ _ _ _ _ _ _ _
   | exact LeO.none _
   | refine LeO.ite ?_ ?_
   | refine LeO.bind ?_ (fun _ => ?_)
  ·intro y0 y1 y2 y3 y4 y5 y6 y7 y8
   unfold watchmanref06_Pass.j1
   repeat' first
   | (with_reducible exact ih0 _ _ _ _ _ _ _ _)
   | (with_reducible exact ih1 _ _ _ _ _ _ _ _ _)
   | (with_reducible exact watchmanref06_turn.mono _ _ _ _ _ _ _ _ _ _)
   | (with_reducible exact LeO.refl _)
   | (with_reducible exact LeO.none _)
   | (with_reducible refine LeO.ite ?_ ?_)
   | (with_reducible refine LeO.bind ?_ (fun _ => ?_))
   | exact ih0 _ _ _ _ _ _ _ _
   | exact ih1 _ _ _ _ _ _ _ _ _
   | exact watchmanref06_turn.mono _ _ _ _ _ _ _ _ _ _
   | exact LeO.none _
   | refine LeO.ite ?_ ?_
   | refine LeO.bind ?_ (fun _ => ?_)
theorem watchmanref06_Pass.mono : ∀ a0 a1 a2 a3 a4 a5 a6 k, LeO (watchmanref06_Pass.f k a0 a1 a2 a3 a4 a5 a6) (watchmanref06_Pass.f (k + 1) a0 a1 a2 a3 a4 a5 a6) := by
 intro a0 a1 a2 a3 a4 a5 a6 k
 obtain ⟨ih0, ih1⟩ := watchmanref06_Pass.mono_l k
 unfold watchmanref06_Pass.f
 repeat' first
   | (with_reducible exact ih0 _ _ _ _ _ _ _ _)
   | (with_reducible exact ih1 _ _ _ _ _ _ _ _ _)
   | (with_reducible exact watchmanref06_turn.mono _ _ _ _ _ _ _ _ _ _)
   | (with_reducible exact LeO.refl _)
   | (with_reducible exact LeO.none _)
   | (with_reducible refine LeO.ite ?_ ?_)
   | (with_reducible refine LeO.bind ?_ (fun _ => ?_))
   | exact ih0 _ _ _ _ _ _ _ _
   | exact ih1 _ _ _ _ _ _ _ _ _
   | exact watchmanref06_turn.mono _ _ _ _ _ _ _ _ _ _
   | exact LeO.none _
   | refine LeO.ite ?_ ?_
   | refine LeO.bind ?_ (fun _ => ?_)
set_option maxHeartbeats 8000000 in
set_option maxRecDepth 100000 in
theorem watchmanref06_Pass.calls (k : Nat) (a0_0 : Int) (a0_1 : Int) (a0_2 : Int) (a0_3 : Int) (a0_4 : Int) (a0_5 : Int) (a1 : Int) (r1 : Int) (r2 : Int) (r3 : Int) (r4 : Int) (r5 : Int) (r6 : Int) (w : World) (h : watchmanref06_Pass.f k a0_0 a0_1 a0_2 a0_3 a0_4 a0_5 a1 = some (r1, r2, r3, r4, r5, r6)) :
  Calls Try.prog 57 #[.agg #[.int .i64 a0_0, .int .i64 a0_1, .int .i64 a0_2, .int .i64 a0_3, .int .i64 a0_4, .int .i64 a0_5], .int .i64 a1] w fun e w' => e = .returned (.agg #[.int .i64 r1, .int .i64 r2, .int .i64 r3, .int .i64 r4, .int .i64 r5, .int .i64 r6]) ∧ Below w.heap.size w w' := by
 have hu28 := Try.underlying28
 have HB := Aside0.mk (Below.refl w.heap.size w)
 have H : ((watchmanref06_Is.f a0_0 a0_1 a0_2 a0_3 a0_4 a0_5).bind fun t302 => (if t302 = true then (watchmanref06_Pass.l0 k a1 0 a0_0 a0_1 a0_2 a0_3 a0_4 a0_5) else (some (a0_0, a0_1, a0_2, a0_3, a0_4, a0_5)))) = some (r1, r2, r3, r4, r5, r6) := h
 clear h
 replace H := Option.bind_eq_some_iff.mp H
 obtain ⟨t302, A30, H⟩ := H
 try dsimp only at H
 have A3 := Aside0.mk A30
 clear A30
 by_cases c4 : t302 = true
 ·subst c4
  rw [if_pos rfl] at H; try dsimp only at H
  have H' := Aside0.mk H
  clear H
  go_enter Try.func57, Try.ntmps57
  go_wp2_with (first | ((with_reducible refine gate_dst (N := 2) rfl ?_); refine box_event ?hg (N := 2) ?hd (cs := #[.int .i64 a0_0, .int .i64 a0_1, .int .i64 a0_2, .int .i64 a0_3, .int .i64 a0_4, .int .i64 a0_5]) (t := 28) ?hr ?_; (case hd => rfl); (case hg => rfl); (case hr => first | (go_simp; done) | (go_simp; rfl)); intro gb300 hg w5 hbox hb; have BK300 := Aside0.mk (hbox); have GW300 := Aside0.mk ((by rw [hg]; exact (below_size HB.out) : w.heap.size ≤ gb300)); have GE300 := Aside0.mk ((by rw [hg]; exact (below_size HB.out) : w.heap.size ≤ gb300)); replace HB := Aside0.mk (below_step HB.out hb); clear hb hbox hg) | ((with_reducible refine gate_dst (N := 4) rfl ?_); refine box_event ?hg (N := 4) ?hd (cs := #[.int .i64 0, .int .i64 0, .int .i64 0, .int .i64 0, .int .i64 0, .int .i64 0]) (t := 28) ?hr ?_; (case hd => rfl); (case hg => rfl); (case hr => first | (go_simp; done) | (go_simp; rfl)); intro gb301 hg w6 hbox hb; have BK301 := Aside0.mk (hbox); have GW301 := Aside0.mk ((by rw [hg]; exact (below_size (by repeat (with_reducible first | exact HB.out | apply pw_below_drewN | apply below_drew1 | refine below_set ?_ GE300.out))) : w.heap.size ≤ gb301)); have GE301 := Aside0.mk ((by rw [hg]; exact (below_size (by repeat (with_reducible first | exact HB.out | apply pw_below_drewN | apply below_drew1 | refine below_set ?_ GE300.out))) : w.heap.size ≤ gb301)); replace HB := Aside0.mk (below_step (by repeat (with_reducible first | exact HB.out | apply pw_below_drewN | apply below_drew1 | refine below_set ?_ GE300.out)) hb); have NB300_301 := Aside0.mk ((by rw [hg]; exact Nat.ne_of_lt (blk_lt BK300.out) : gb300 ≠ gb301)); have NB301_300 := Aside0.mk ((by rw [hg]; exact Nat.ne_of_gt (blk_lt BK300.out) : gb301 ≠ gb300)); replace BK300 := bl_ BK300 hb; clear hb hbox hg; have hnb7 := NB300_301.out; have hnc7 := NB301_300.out; have hcz8_0 : w6.cell? ⟨gb300, 0, none⟩ = some (.int .i64 a0_0) := (blk_cell BK300.out 0).trans rfl; have hcz8_1 : w6.cell? ⟨gb300, 1, none⟩ = some (.int .i64 a0_1) := (blk_cell BK300.out 1).trans rfl; have hcz8_2 : w6.cell? ⟨gb300, 2, none⟩ = some (.int .i64 a0_2) := (blk_cell BK300.out 2).trans rfl; have hcz8_3 : w6.cell? ⟨gb300, 3, none⟩ = some (.int .i64 a0_3) := (blk_cell BK300.out 3).trans rfl; have hcz8_4 : w6.cell? ⟨gb300, 4, none⟩ = some (.int .i64 a0_4) := (blk_cell BK300.out 4).trans rfl; have hcz8_5 : w6.cell? ⟨gb300, 5, none⟩ = some (.int .i64 a0_5) := (blk_cell BK300.out 5).trans rfl; have hfz8_0 := blk_frozen BK300.out 0; have hfz8_1 := blk_frozen BK300.out 1; have hfz8_2 := blk_frozen BK300.out 2; have hfz8_3 := blk_frozen BK300.out 3; have hfz8_4 := blk_frozen BK300.out 4; have hfz8_5 := blk_frozen BK300.out 5) | ((with_reducible refine gate_callee (f := 55) rfl ?_); refine goesL_ (some 7) rfl rfl Try.func55 (by kernel_rfl) rfl #[.agg #[.int .i64 a0_0, .int .i64 a0_1, .int .i64 a0_2, .int .i64 a0_3, .int .i64 a0_4, .int .i64 a0_5]] rfl (by (try simp only [List.map_toArray, List.map_cons, List.map_nil]); first | done | rfl | (simp only [List.length_drop, List.length_take]; rfl)) ?_; (with_reducible refine (watchmanref06_Is.calls a0_0 a0_1 a0_2 a0_3 a0_4 a0_5 true _ A3.out).mono ?_); rintro e w9 ⟨rfl, hb⟩; refine ⟨_, rfl, ?_⟩; replace BK300 := bl_ BK300 hb; replace BK301 := bl_ BK301 hb; replace HB := Aside0.mk (below_step (by repeat (with_reducible first | exact HB.out | apply pw_below_drewN | apply below_drew1 | refine below_set ?_ (Aside0.out (by assumption)))) hb); (try clear hb); (try clear hb2); (try clear hk); (try clear hi)))
  go_loopg [5] k (fun kq v5 w' => ∃ (x5_1 : Int) (x301000_1 : Int) (x301001_1 : Int) (x301002_1 : Int) (x301003_1 : Int) (x301004_1 : Int) (x301005_1 : Int), v5 = .int .i64 x5_1 ∧ Aside0 (watchmanref06_Pass.l0 kq a1 x5_1 x301000_1 x301001_1 x301002_1 x301003_1 x301004_1 x301005_1 = some (r1, r2, r3, r4, r5, r6)) ∧ Aside0 (kq ≤ k) ∧ Aside0 (w'.heap[gb300]? = some (.cells #[.int .i64 x301000_1, .int .i64 x301001_1, .int .i64 x301002_1, .int .i64 x301003_1, .int .i64 x301004_1, .int .i64 x301005_1] 28 (0, 0))) ∧ Aside0 (w'.heap[gb301]? = some (.cells #[.int .i64 0, .int .i64 0, .int .i64 0, .int .i64 0, .int .i64 0, .int .i64 0] 28 (0, 0))) ∧ Aside0 (Below w.heap.size w w'))
  case atStart => exact ⟨(0), (a0_0), (a0_1), (a0_2), (a0_3), (a0_4), (a0_5), (by first | rfl | (simp; done) | (simp [*]; done)), H', ⟨Nat.le_refl _⟩, ⟨by (with_reducible repeat (first | refine blk_drewN ?_ _ | refine blk_drew ?_ | refine blk_alloc ?_ _)); exact BK300.out⟩, ⟨by (with_reducible repeat (first | refine blk_drewN ?_ _ | refine blk_drew ?_ | refine blk_alloc ?_ _)); exact BK301.out⟩, ⟨by repeat (with_reducible first | exact HB.out | apply pw_below_drewN | apply below_drew1 | refine below_set ?_ (Aside0.out (by assumption)))⟩⟩
  case round =>
   clear H'
   try clear p2; try clear c4; try clear c5; try clear c7; try clear hcz8_0; try clear hcz8_1; try clear hcz8_2; try clear hcz8_3; try clear hcz8_4; try clear hcz8_5; try clear hfz8_0; try clear hfz8_1; try clear hfz8_2; try clear hfz8_3; try clear hfz8_4; try clear hfz8_5
   obtain ⟨x5_1, x301000_1, x301001_1, x301002_1, x301003_1, x301004_1, x301005_1, rfl, HA, HK1, BK300, BK301, HB⟩ := hrel
   cases gk with
   | zero => exact absurd HA.out (by simp [watchmanref06_Pass.l0])
   | succ k1 =>
    have H := HA.out
    clear HA
    simp only [watchmanref06_Pass.l0] at H
    by_cases c10 : x5_1 < 3
    ·rw [if_pos c10] at H
     have c10b0 : decide (x5_1 < 3) = true := decide_eq_true c10
     clear c10
     have HC11 := Aside0.mk H
     clear H
     go_upto_region 6 with (fail)
     go_cut [22] (fun v22 wc => ∃ (kq : Nat) (x22_10 : Bool), v22 = .bool x22_10 ∧ Aside0 (watchmanref06_Pass.j1 kq a1 x5_1 x22_10 x301000_1 x301001_1 x301002_1 x301003_1 x301004_1 x301005_1 = some (r1, r2, r3, r4, r5, r6)) ∧ Aside0 (kq ≤ k1) ∧ Aside0 (wc.heap[gb300]? = some (.cells #[.int .i64 x301000_1, .int .i64 x301001_1, .int .i64 x301002_1, .int .i64 x301003_1, .int .i64 x301004_1, .int .i64 x301005_1] 28 (0, 0))) ∧ Aside0 (wc.heap[gb301]? = some (.cells #[.int .i64 0, .int .i64 0, .int .i64 0, .int .i64 0, .int .i64 0, .int .i64 0] 28 (0, 0))) ∧ Aside0 (Below w.heap.size w wc))
     case first =>
      have H := HC11.out
      clear HC11
      by_cases c12 : x301002_1 = 4
      ·rw [if_pos c12] at H
       have c12b0 : (x301002_1 == 4) = true := beq_iff_eq.mpr c12
       have c12b1 : (x301002_1 != 4) = false := bne_eq_false_iff_eq.mpr c12
       clear c12
       (first | rw [c12b0] | (simp only [i64_w, i32_w]; rw [c12b0]) | skip)
       have H' := Aside0.mk H
       clear H
       have hnb13 := NB300_301.out
       have hnc13 := NB301_300.out
       have hcz14_0 : wr.cell? ⟨gb300, 0, none⟩ = some (.int .i64 x301000_1) := (blk_cell BK300.out 0).trans rfl
       have hcz14_1 : wr.cell? ⟨gb300, 1, none⟩ = some (.int .i64 x301001_1) := (blk_cell BK300.out 1).trans rfl
       have hcz14_2 : wr.cell? ⟨gb300, 2, none⟩ = some (.int .i64 x301002_1) := (blk_cell BK300.out 2).trans rfl
       have hcz14_3 : wr.cell? ⟨gb300, 3, none⟩ = some (.int .i64 x301003_1) := (blk_cell BK300.out 3).trans rfl
       have hcz14_4 : wr.cell? ⟨gb300, 4, none⟩ = some (.int .i64 x301004_1) := (blk_cell BK300.out 4).trans rfl
       have hcz14_5 : wr.cell? ⟨gb300, 5, none⟩ = some (.int .i64 x301005_1) := (blk_cell BK300.out 5).trans rfl
       have hfz14_0 := blk_frozen BK300.out 0
       have hfz14_1 := blk_frozen BK300.out 1
       have hfz14_2 := blk_frozen BK300.out 2
       have hfz14_3 := blk_frozen BK300.out 3
       have hfz14_4 := blk_frozen BK300.out 4
       have hfz14_5 := blk_frozen BK300.out 5
       go_wp2
       go_meet
       case rel => exact ⟨_, (decide (x301005_1 ≤ a1)), (by first | rfl | (simp; done) | (simp [*]; done)), H', ⟨by have := HK1.out; first | omega | exact Nat.le_refl _⟩, ⟨by (with_reducible repeat (first | refine blk_drewN ?_ _ | refine blk_drew ?_ | refine blk_alloc ?_ _)); exact BK300.out⟩, ⟨by (with_reducible repeat (first | refine blk_drewN ?_ _ | refine blk_drew ?_ | refine blk_alloc ?_ _)); exact BK301.out⟩, ⟨by repeat (with_reducible first | exact HB.out | apply pw_below_drewN | apply below_drew1 | refine below_set ?_ (Aside0.out (by assumption)))⟩⟩
      ·rw [if_neg c12] at H
       have c12b0 : (x301002_1 == 4) = false := beq_eq_false_iff_ne.mpr c12
       have c12b1 : (x301002_1 != 4) = true := bne_iff_ne.mpr c12
       (first | rw [c12b0] | (simp only [i64_w, i32_w]; rw [c12b0]) | skip)
       have H' := Aside0.mk H
       clear H
       have hnb15 := NB300_301.out
       have hnc15 := NB301_300.out
       have hcz16_0 : wr.cell? ⟨gb300, 0, none⟩ = some (.int .i64 x301000_1) := (blk_cell BK300.out 0).trans rfl
       have hcz16_1 : wr.cell? ⟨gb300, 1, none⟩ = some (.int .i64 x301001_1) := (blk_cell BK300.out 1).trans rfl
       have hcz16_2 : wr.cell? ⟨gb300, 2, none⟩ = some (.int .i64 x301002_1) := (blk_cell BK300.out 2).trans rfl
       have hcz16_3 : wr.cell? ⟨gb300, 3, none⟩ = some (.int .i64 x301003_1) := (blk_cell BK300.out 3).trans rfl
       have hcz16_4 : wr.cell? ⟨gb300, 4, none⟩ = some (.int .i64 x301004_1) := (blk_cell BK300.out 4).trans rfl
       have hcz16_5 : wr.cell? ⟨gb300, 5, none⟩ = some (.int .i64 x301005_1) := (blk_cell BK300.out 5).trans rfl
       have hfz16_0 := blk_frozen BK300.out 0
       have hfz16_1 := blk_frozen BK300.out 1
       have hfz16_2 := blk_frozen BK300.out 2
       have hfz16_3 := blk_frozen BK300.out 3
       have hfz16_4 := blk_frozen BK300.out 4
       have hfz16_5 := blk_frozen BK300.out 5
       go_wp2
       go_meet
       case rel => exact ⟨_, (false), (by first | rfl | (simp; done) | (simp [*]; done)), H', ⟨by have := HK1.out; first | omega | exact Nat.le_refl _⟩, ⟨by (with_reducible repeat (first | refine blk_drewN ?_ _ | refine blk_drew ?_ | refine blk_alloc ?_ _)); exact BK300.out⟩, ⟨by (with_reducible repeat (first | refine blk_drewN ?_ _ | refine blk_drew ?_ | refine blk_alloc ?_ _)); exact BK301.out⟩, ⟨by repeat (with_reducible first | exact HB.out | apply pw_below_drewN | apply below_drew1 | refine below_set ?_ (Aside0.out (by assumption)))⟩⟩
     case rest =>
      clear HC11
      try clear c1; try clear p2; try clear c4; try clear c5; try clear c7; try clear c10; try clear c10b0; try clear c12; try clear c12b0; try clear c12b1; try clear c13; try clear c15; try clear hcz14_0; try clear hcz14_1; try clear hcz14_2; try clear hcz14_3; try clear hcz14_4; try clear hcz14_5; try clear hcz16_0; try clear hcz16_1; try clear hcz16_2; try clear hcz16_3; try clear hcz16_4; try clear hcz16_5; try clear hcz8_0; try clear hcz8_1; try clear hcz8_2; try clear hcz8_3; try clear hcz8_4; try clear hcz8_5; try clear hfz14_0; try clear hfz14_1; try clear hfz14_2; try clear hfz14_3; try clear hfz14_4; try clear hfz14_5; try clear hfz16_0; try clear hfz16_1; try clear hfz16_2; try clear hfz16_3; try clear hfz16_4; try clear hfz16_5; try clear hfz8_0; try clear hfz8_1; try clear hfz8_2; try clear hfz8_3; try clear hfz8_4; try clear hfz8_5; try clear p2
      obtain ⟨kq, x22_10, rfl, HA, HJ10, BK300, BK301, HB⟩ := hcut
      cases kq with
      | zero => exact absurd HA.out (by simp [watchmanref06_Pass.j1])
      | succ kj10 =>
       have H := HA.out
       clear HA
       simp only [watchmanref06_Pass.j1] at H
       by_cases c17 : x22_10 = true
       ·subst c17
        rw [if_pos rfl] at H; try dsimp only at H
        replace H := Option.bind_eq_some_iff.mp H
        obtain ⟨⟨t303, t304, t305, t306, t307, t308⟩, A180, H⟩ := H
        try dsimp only at H
        have A18 := Aside0.mk A180
        clear A180
        have H' := Aside0.mk H
        clear H
        have hnb19 := NB300_301.out
        have hnc19 := NB301_300.out
        have hcz20_0 : wc.cell? ⟨gb300, 0, none⟩ = some (.int .i64 x301000_1) := (blk_cell BK300.out 0).trans rfl
        have hcz20_1 : wc.cell? ⟨gb300, 1, none⟩ = some (.int .i64 x301001_1) := (blk_cell BK300.out 1).trans rfl
        have hcz20_2 : wc.cell? ⟨gb300, 2, none⟩ = some (.int .i64 x301002_1) := (blk_cell BK300.out 2).trans rfl
        have hcz20_3 : wc.cell? ⟨gb300, 3, none⟩ = some (.int .i64 x301003_1) := (blk_cell BK300.out 3).trans rfl
        have hcz20_4 : wc.cell? ⟨gb300, 4, none⟩ = some (.int .i64 x301004_1) := (blk_cell BK300.out 4).trans rfl
        have hcz20_5 : wc.cell? ⟨gb300, 5, none⟩ = some (.int .i64 x301005_1) := (blk_cell BK300.out 5).trans rfl
        have hfz20_0 := blk_frozen BK300.out 0
        have hfz20_1 := blk_frozen BK300.out 1
        have hfz20_2 := blk_frozen BK300.out 2
        have hfz20_3 := blk_frozen BK300.out 3
        have hfz20_4 := blk_frozen BK300.out 4
        have hfz20_5 := blk_frozen BK300.out 5
        go_wp2_with (first | ((with_reducible refine gate_callee (f := 88) rfl ?_); refine goesL_ (some 26) rfl rfl Try.func88 (by kernel_rfl) rfl #[.agg #[.int .i64 x301000_1, .int .i64 x301001_1, .int .i64 x301002_1, .int .i64 x301003_1, .int .i64 x301004_1, .int .i64 x301005_1], .int .i64 6, .int .i64 x301005_1, .int .i64 0] rfl (by (try simp only [List.map_toArray, List.map_cons, List.map_nil]); first | done | rfl | (simp only [List.length_drop, List.length_take]; rfl)) ?_; (with_reducible refine (watchmanref06_turn.calls kj10 x301000_1 x301001_1 x301002_1 x301003_1 x301004_1 x301005_1 6 x301005_1 0 t303 t304 t305 t306 t307 t308 _ A18.out).mono ?_); rintro e w21 ⟨rfl, hb⟩; refine ⟨_, rfl, ?_⟩; replace BK300 := bl_ BK300 hb; replace BK301 := bl_ BK301 hb; replace HB := Aside0.mk (below_step (by repeat (with_reducible first | exact HB.out | apply pw_below_drewN | apply below_drew1 | refine below_set ?_ (Aside0.out (by assumption)))) hb); (try clear hb); (try clear hb2); (try clear hk); (try clear hi); have hcz22_0 : w21.cell? ⟨gb300, 0, none⟩ = some (.int .i64 x301000_1) := (blk_cell BK300.out 0).trans rfl; have hcz22_1 : w21.cell? ⟨gb300, 1, none⟩ = some (.int .i64 x301001_1) := (blk_cell BK300.out 1).trans rfl; have hcz22_2 : w21.cell? ⟨gb300, 2, none⟩ = some (.int .i64 x301002_1) := (blk_cell BK300.out 2).trans rfl; have hcz22_3 : w21.cell? ⟨gb300, 3, none⟩ = some (.int .i64 x301003_1) := (blk_cell BK300.out 3).trans rfl; have hcz22_4 : w21.cell? ⟨gb300, 4, none⟩ = some (.int .i64 x301004_1) := (blk_cell BK300.out 4).trans rfl; have hcz22_5 : w21.cell? ⟨gb300, 5, none⟩ = some (.int .i64 x301005_1) := (blk_cell BK300.out 5).trans rfl; have hfz22_0 := blk_frozen BK300.out 0; have hfz22_1 := blk_frozen BK300.out 1; have hfz22_2 := blk_frozen BK300.out 2; have hfz22_3 := blk_frozen BK300.out 3; have hfz22_4 := blk_frozen BK300.out 4; have hfz22_5 := blk_frozen BK300.out 5))
        go_roundg kj10
        case measure => have := HK1.out; have := HJ10.out; omega
        case rel => exact ⟨(wrap64 (x5_1 + 1)), (t303), (t304), (t305), (t306), (t307), (t308), (by first | rfl | (simp; done) | (simp [*]; done)), H', ⟨by have := HK1.out; have := HJ10.out; omega⟩, ⟨by (with_reducible repeat (first | refine blk_drewN ?_ _ | refine blk_drew ?_ | refine blk_alloc ?_ _)); refine blk_put (cs := #[.int .i64 t303, .int .i64 t304, .int .i64 t305, .int .i64 t306, .int .i64 t307, .int .i64 x301005_1]) ?_ 5 _ rfl; (with_reducible repeat (first | refine blk_drewN ?_ _ | refine blk_drew ?_ | refine blk_alloc ?_ _)); refine blk_put (cs := #[.int .i64 t303, .int .i64 t304, .int .i64 t305, .int .i64 t306, .int .i64 x301004_1, .int .i64 x301005_1]) ?_ 4 _ rfl; (with_reducible repeat (first | refine blk_drewN ?_ _ | refine blk_drew ?_ | refine blk_alloc ?_ _)); refine blk_put (cs := #[.int .i64 t303, .int .i64 t304, .int .i64 t305, .int .i64 x301003_1, .int .i64 x301004_1, .int .i64 x301005_1]) ?_ 3 _ rfl; (with_reducible repeat (first | refine blk_drewN ?_ _ | refine blk_drew ?_ | refine blk_alloc ?_ _)); refine blk_put (cs := #[.int .i64 t303, .int .i64 t304, .int .i64 x301002_1, .int .i64 x301003_1, .int .i64 x301004_1, .int .i64 x301005_1]) ?_ 2 _ rfl; (with_reducible repeat (first | refine blk_drewN ?_ _ | refine blk_drew ?_ | refine blk_alloc ?_ _)); refine blk_put (cs := #[.int .i64 t303, .int .i64 x301001_1, .int .i64 x301002_1, .int .i64 x301003_1, .int .i64 x301004_1, .int .i64 x301005_1]) ?_ 1 _ rfl; (with_reducible repeat (first | refine blk_drewN ?_ _ | refine blk_drew ?_ | refine blk_alloc ?_ _)); refine blk_put (cs := #[.int .i64 x301000_1, .int .i64 x301001_1, .int .i64 x301002_1, .int .i64 x301003_1, .int .i64 x301004_1, .int .i64 x301005_1]) ?_ 0 _ rfl; (with_reducible repeat (first | refine blk_drewN ?_ _ | refine blk_drew ?_ | refine blk_alloc ?_ _)); exact BK300.out⟩, ⟨by (with_reducible repeat (first | refine blk_drewN ?_ _ | refine blk_drew ?_ | refine blk_alloc ?_ _)); refine blk_far ?_ NB301_300.out _; (with_reducible repeat (first | refine blk_drewN ?_ _ | refine blk_drew ?_ | refine blk_alloc ?_ _)); refine blk_far ?_ NB301_300.out _; (with_reducible repeat (first | refine blk_drewN ?_ _ | refine blk_drew ?_ | refine blk_alloc ?_ _)); refine blk_far ?_ NB301_300.out _; (with_reducible repeat (first | refine blk_drewN ?_ _ | refine blk_drew ?_ | refine blk_alloc ?_ _)); refine blk_far ?_ NB301_300.out _; (with_reducible repeat (first | refine blk_drewN ?_ _ | refine blk_drew ?_ | refine blk_alloc ?_ _)); refine blk_far ?_ NB301_300.out _; (with_reducible repeat (first | refine blk_drewN ?_ _ | refine blk_drew ?_ | refine blk_alloc ?_ _)); refine blk_far ?_ NB301_300.out _; (with_reducible repeat (first | refine blk_drewN ?_ _ | refine blk_drew ?_ | refine blk_alloc ?_ _)); exact BK301.out⟩, ⟨by repeat (with_reducible first | exact HB.out | apply pw_below_drewN | apply below_drew1 | refine below_set ?_ (Aside0.out (by assumption)))⟩⟩
       ·replace c17 := Bool.eq_false_iff.mpr c17
        subst c17
        rw [if_neg (show ¬ (false = true) by decide)] at H; try dsimp only at H
        by_cases c23 : x301002_1 = 1
        ·rw [if_pos c23] at H
         have c23b0 : (x301002_1 == 1) = true := beq_iff_eq.mpr c23
         have c23b1 : (x301002_1 != 1) = false := bne_eq_false_iff_eq.mpr c23
         clear c23
         by_cases c24 : x301005_1 ≤ a1
         ·rw [if_pos c24] at H
          have c24b0 : decide (x301005_1 ≤ a1) = true := decide_eq_true c24
          clear c24
          replace H := Option.bind_eq_some_iff.mp H
          obtain ⟨⟨t309, t310, t311, t312, t313, t314⟩, A250, H⟩ := H
          try dsimp only at H
          have A25 := Aside0.mk A250
          clear A250
          have H' := Aside0.mk H
          clear H
          have hnb26 := NB300_301.out
          have hnc26 := NB301_300.out
          have hcz27_0 : wc.cell? ⟨gb300, 0, none⟩ = some (.int .i64 x301000_1) := (blk_cell BK300.out 0).trans rfl
          have hcz27_1 : wc.cell? ⟨gb300, 1, none⟩ = some (.int .i64 x301001_1) := (blk_cell BK300.out 1).trans rfl
          have hcz27_2 : wc.cell? ⟨gb300, 2, none⟩ = some (.int .i64 x301002_1) := (blk_cell BK300.out 2).trans rfl
          have hcz27_3 : wc.cell? ⟨gb300, 3, none⟩ = some (.int .i64 x301003_1) := (blk_cell BK300.out 3).trans rfl
          have hcz27_4 : wc.cell? ⟨gb300, 4, none⟩ = some (.int .i64 x301004_1) := (blk_cell BK300.out 4).trans rfl
          have hcz27_5 : wc.cell? ⟨gb300, 5, none⟩ = some (.int .i64 x301005_1) := (blk_cell BK300.out 5).trans rfl
          have hfz27_0 := blk_frozen BK300.out 0
          have hfz27_1 := blk_frozen BK300.out 1
          have hfz27_2 := blk_frozen BK300.out 2
          have hfz27_3 := blk_frozen BK300.out 3
          have hfz27_4 := blk_frozen BK300.out 4
          have hfz27_5 := blk_frozen BK300.out 5
          go_wp2_with (first | ((with_reducible refine gate_callee (f := 88) rfl ?_); refine goesL_ (some 39) rfl rfl Try.func88 (by kernel_rfl) rfl #[.agg #[.int .i64 x301000_1, .int .i64 x301001_1, .int .i64 x301002_1, .int .i64 x301003_1, .int .i64 x301004_1, .int .i64 x301005_1], .int .i64 2, .int .i64 x301005_1, .int .i64 0] rfl (by (try simp only [List.map_toArray, List.map_cons, List.map_nil]); first | done | rfl | (simp only [List.length_drop, List.length_take]; rfl)) ?_; (with_reducible refine (watchmanref06_turn.calls kj10 x301000_1 x301001_1 x301002_1 x301003_1 x301004_1 x301005_1 2 x301005_1 0 t309 t310 t311 t312 t313 t314 _ A25.out).mono ?_); rintro e w28 ⟨rfl, hb⟩; refine ⟨_, rfl, ?_⟩; replace BK300 := bl_ BK300 hb; replace BK301 := bl_ BK301 hb; replace HB := Aside0.mk (below_step (by repeat (with_reducible first | exact HB.out | apply pw_below_drewN | apply below_drew1 | refine below_set ?_ (Aside0.out (by assumption)))) hb); (try clear hb); (try clear hb2); (try clear hk); (try clear hi); have hcz29_0 : w28.cell? ⟨gb300, 0, none⟩ = some (.int .i64 x301000_1) := (blk_cell BK300.out 0).trans rfl; have hcz29_1 : w28.cell? ⟨gb300, 1, none⟩ = some (.int .i64 x301001_1) := (blk_cell BK300.out 1).trans rfl; have hcz29_2 : w28.cell? ⟨gb300, 2, none⟩ = some (.int .i64 x301002_1) := (blk_cell BK300.out 2).trans rfl; have hcz29_3 : w28.cell? ⟨gb300, 3, none⟩ = some (.int .i64 x301003_1) := (blk_cell BK300.out 3).trans rfl; have hcz29_4 : w28.cell? ⟨gb300, 4, none⟩ = some (.int .i64 x301004_1) := (blk_cell BK300.out 4).trans rfl; have hcz29_5 : w28.cell? ⟨gb300, 5, none⟩ = some (.int .i64 x301005_1) := (blk_cell BK300.out 5).trans rfl; have hfz29_0 := blk_frozen BK300.out 0; have hfz29_1 := blk_frozen BK300.out 1; have hfz29_2 := blk_frozen BK300.out 2; have hfz29_3 := blk_frozen BK300.out 3; have hfz29_4 := blk_frozen BK300.out 4; have hfz29_5 := blk_frozen BK300.out 5))
          go_roundg kj10
          case measure => have := HK1.out; have := HJ10.out; omega
          case rel => exact ⟨(wrap64 (x5_1 + 1)), (t309), (t310), (t311), (t312), (t313), (t314), (by first | rfl | (simp; done) | (simp [*]; done)), H', ⟨by have := HK1.out; have := HJ10.out; omega⟩, ⟨by (with_reducible repeat (first | refine blk_drewN ?_ _ | refine blk_drew ?_ | refine blk_alloc ?_ _)); refine blk_put (cs := #[.int .i64 t309, .int .i64 t310, .int .i64 t311, .int .i64 t312, .int .i64 t313, .int .i64 x301005_1]) ?_ 5 _ rfl; (with_reducible repeat (first | refine blk_drewN ?_ _ | refine blk_drew ?_ | refine blk_alloc ?_ _)); refine blk_put (cs := #[.int .i64 t309, .int .i64 t310, .int .i64 t311, .int .i64 t312, .int .i64 x301004_1, .int .i64 x301005_1]) ?_ 4 _ rfl; (with_reducible repeat (first | refine blk_drewN ?_ _ | refine blk_drew ?_ | refine blk_alloc ?_ _)); refine blk_put (cs := #[.int .i64 t309, .int .i64 t310, .int .i64 t311, .int .i64 x301003_1, .int .i64 x301004_1, .int .i64 x301005_1]) ?_ 3 _ rfl; (with_reducible repeat (first | refine blk_drewN ?_ _ | refine blk_drew ?_ | refine blk_alloc ?_ _)); refine blk_put (cs := #[.int .i64 t309, .int .i64 t310, .int .i64 x301002_1, .int .i64 x301003_1, .int .i64 x301004_1, .int .i64 x301005_1]) ?_ 2 _ rfl; (with_reducible repeat (first | refine blk_drewN ?_ _ | refine blk_drew ?_ | refine blk_alloc ?_ _)); refine blk_put (cs := #[.int .i64 t309, .int .i64 x301001_1, .int .i64 x301002_1, .int .i64 x301003_1, .int .i64 x301004_1, .int .i64 x301005_1]) ?_ 1 _ rfl; (with_reducible repeat (first | refine blk_drewN ?_ _ | refine blk_drew ?_ | refine blk_alloc ?_ _)); refine blk_put (cs := #[.int .i64 x301000_1, .int .i64 x301001_1, .int .i64 x301002_1, .int .i64 x301003_1, .int .i64 x301004_1, .int .i64 x301005_1]) ?_ 0 _ rfl; (with_reducible repeat (first | refine blk_drewN ?_ _ | refine blk_drew ?_ | refine blk_alloc ?_ _)); exact BK300.out⟩, ⟨by (with_reducible repeat (first | refine blk_drewN ?_ _ | refine blk_drew ?_ | refine blk_alloc ?_ _)); refine blk_far ?_ NB301_300.out _; (with_reducible repeat (first | refine blk_drewN ?_ _ | refine blk_drew ?_ | refine blk_alloc ?_ _)); refine blk_far ?_ NB301_300.out _; (with_reducible repeat (first | refine blk_drewN ?_ _ | refine blk_drew ?_ | refine blk_alloc ?_ _)); refine blk_far ?_ NB301_300.out _; (with_reducible repeat (first | refine blk_drewN ?_ _ | refine blk_drew ?_ | refine blk_alloc ?_ _)); refine blk_far ?_ NB301_300.out _; (with_reducible repeat (first | refine blk_drewN ?_ _ | refine blk_drew ?_ | refine blk_alloc ?_ _)); refine blk_far ?_ NB301_300.out _; (with_reducible repeat (first | refine blk_drewN ?_ _ | refine blk_drew ?_ | refine blk_alloc ?_ _)); refine blk_far ?_ NB301_300.out _; (with_reducible repeat (first | refine blk_drewN ?_ _ | refine blk_drew ?_ | refine blk_alloc ?_ _)); exact BK301.out⟩, ⟨by repeat (with_reducible first | exact HB.out | apply pw_below_drewN | apply below_drew1 | refine below_set ?_ (Aside0.out (by assumption)))⟩⟩
         ·rw [if_neg c24] at H
          have c24b0 : decide (x301005_1 ≤ a1) = false := decide_eq_false c24
          clear c24
          have H' := Aside0.mk H
          clear H
          have hnb30 := NB300_301.out
          have hnc30 := NB301_300.out
          have hcz31_0 : wc.cell? ⟨gb300, 0, none⟩ = some (.int .i64 x301000_1) := (blk_cell BK300.out 0).trans rfl
          have hcz31_1 : wc.cell? ⟨gb300, 1, none⟩ = some (.int .i64 x301001_1) := (blk_cell BK300.out 1).trans rfl
          have hcz31_2 : wc.cell? ⟨gb300, 2, none⟩ = some (.int .i64 x301002_1) := (blk_cell BK300.out 2).trans rfl
          have hcz31_3 : wc.cell? ⟨gb300, 3, none⟩ = some (.int .i64 x301003_1) := (blk_cell BK300.out 3).trans rfl
          have hcz31_4 : wc.cell? ⟨gb300, 4, none⟩ = some (.int .i64 x301004_1) := (blk_cell BK300.out 4).trans rfl
          have hcz31_5 : wc.cell? ⟨gb300, 5, none⟩ = some (.int .i64 x301005_1) := (blk_cell BK300.out 5).trans rfl
          have hfz31_0 := blk_frozen BK300.out 0
          have hfz31_1 := blk_frozen BK300.out 1
          have hfz31_2 := blk_frozen BK300.out 2
          have hfz31_3 := blk_frozen BK300.out 3
          have hfz31_4 := blk_frozen BK300.out 4
          have hfz31_5 := blk_frozen BK300.out 5
          go_wp2
          go_roundg kj10
          case measure => have := HK1.out; have := HJ10.out; omega
          case rel => exact ⟨(wrap64 (x5_1 + 1)), (x301000_1), (x301001_1), (x301002_1), (x301003_1), (x301004_1), (x301005_1), (by first | rfl | (simp; done) | (simp [*]; done)), H', ⟨by have := HK1.out; have := HJ10.out; omega⟩, ⟨by (with_reducible repeat (first | refine blk_drewN ?_ _ | refine blk_drew ?_ | refine blk_alloc ?_ _)); exact BK300.out⟩, ⟨by (with_reducible repeat (first | refine blk_drewN ?_ _ | refine blk_drew ?_ | refine blk_alloc ?_ _)); exact BK301.out⟩, ⟨by repeat (with_reducible first | exact HB.out | apply pw_below_drewN | apply below_drew1 | refine below_set ?_ (Aside0.out (by assumption)))⟩⟩
        ·rw [if_neg c23] at H
         have c23b0 : (x301002_1 == 1) = false := beq_eq_false_iff_ne.mpr c23
         have c23b1 : (x301002_1 != 1) = true := bne_iff_ne.mpr c23
         have H' := Aside0.mk H
         clear H
         have hnb32 := NB300_301.out
         have hnc32 := NB301_300.out
         have hcz33_0 : wc.cell? ⟨gb300, 0, none⟩ = some (.int .i64 x301000_1) := (blk_cell BK300.out 0).trans rfl
         have hcz33_1 : wc.cell? ⟨gb300, 1, none⟩ = some (.int .i64 x301001_1) := (blk_cell BK300.out 1).trans rfl
         have hcz33_2 : wc.cell? ⟨gb300, 2, none⟩ = some (.int .i64 x301002_1) := (blk_cell BK300.out 2).trans rfl
         have hcz33_3 : wc.cell? ⟨gb300, 3, none⟩ = some (.int .i64 x301003_1) := (blk_cell BK300.out 3).trans rfl
         have hcz33_4 : wc.cell? ⟨gb300, 4, none⟩ = some (.int .i64 x301004_1) := (blk_cell BK300.out 4).trans rfl
         have hcz33_5 : wc.cell? ⟨gb300, 5, none⟩ = some (.int .i64 x301005_1) := (blk_cell BK300.out 5).trans rfl
         have hfz33_0 := blk_frozen BK300.out 0
         have hfz33_1 := blk_frozen BK300.out 1
         have hfz33_2 := blk_frozen BK300.out 2
         have hfz33_3 := blk_frozen BK300.out 3
         have hfz33_4 := blk_frozen BK300.out 4
         have hfz33_5 := blk_frozen BK300.out 5
         go_wp2
         go_roundg kj10
         case measure => have := HK1.out; have := HJ10.out; omega
         case rel => exact ⟨(wrap64 (x5_1 + 1)), (x301000_1), (x301001_1), (x301002_1), (x301003_1), (x301004_1), (x301005_1), (by first | rfl | (simp; done) | (simp [*]; done)), H', ⟨by have := HK1.out; have := HJ10.out; omega⟩, ⟨by (with_reducible repeat (first | refine blk_drewN ?_ _ | refine blk_drew ?_ | refine blk_alloc ?_ _)); exact BK300.out⟩, ⟨by (with_reducible repeat (first | refine blk_drewN ?_ _ | refine blk_drew ?_ | refine blk_alloc ?_ _)); exact BK301.out⟩, ⟨by repeat (with_reducible first | exact HB.out | apply pw_below_drewN | apply below_drew1 | refine below_set ?_ (Aside0.out (by assumption)))⟩⟩
    ·rw [if_neg c10] at H
     have c10b0 : decide (x5_1 < 3) = false := decide_eq_false c10
     clear c10
     simp only [Option.some.injEq, Prod.mk.injEq] at H
     obtain ⟨rfl, rfl, rfl, rfl, rfl, rfl⟩ := H
     have hnb34 := NB300_301.out
     have hnc34 := NB301_300.out
     have hcz35_0 : wr.cell? ⟨gb300, 0, none⟩ = some (.int .i64 x301000_1) := (blk_cell BK300.out 0).trans rfl
     have hcz35_1 : wr.cell? ⟨gb300, 1, none⟩ = some (.int .i64 x301001_1) := (blk_cell BK300.out 1).trans rfl
     have hcz35_2 : wr.cell? ⟨gb300, 2, none⟩ = some (.int .i64 x301002_1) := (blk_cell BK300.out 2).trans rfl
     have hcz35_3 : wr.cell? ⟨gb300, 3, none⟩ = some (.int .i64 x301003_1) := (blk_cell BK300.out 3).trans rfl
     have hcz35_4 : wr.cell? ⟨gb300, 4, none⟩ = some (.int .i64 x301004_1) := (blk_cell BK300.out 4).trans rfl
     have hcz35_5 : wr.cell? ⟨gb300, 5, none⟩ = some (.int .i64 x301005_1) := (blk_cell BK300.out 5).trans rfl
     have hfz35_0 := blk_frozen BK300.out 0
     have hfz35_1 := blk_frozen BK300.out 1
     have hfz35_2 := blk_frozen BK300.out 2
     have hfz35_3 := blk_frozen BK300.out 3
     have hfz35_4 := blk_frozen BK300.out 4
     have hfz35_5 := blk_frozen BK300.out 5
     have hcz36_0 : wr.cell? ⟨gb301, 0, none⟩ = some (.int .i64 0) := (blk_cell BK301.out 0).trans rfl
     have hcz36_1 : wr.cell? ⟨gb301, 1, none⟩ = some (.int .i64 0) := (blk_cell BK301.out 1).trans rfl
     have hcz36_2 : wr.cell? ⟨gb301, 2, none⟩ = some (.int .i64 0) := (blk_cell BK301.out 2).trans rfl
     have hcz36_3 : wr.cell? ⟨gb301, 3, none⟩ = some (.int .i64 0) := (blk_cell BK301.out 3).trans rfl
     have hcz36_4 : wr.cell? ⟨gb301, 4, none⟩ = some (.int .i64 0) := (blk_cell BK301.out 4).trans rfl
     have hcz36_5 : wr.cell? ⟨gb301, 5, none⟩ = some (.int .i64 0) := (blk_cell BK301.out 5).trans rfl
     have hfz36_0 := blk_frozen BK301.out 0
     have hfz36_1 := blk_frozen BK301.out 1
     have hfz36_2 := blk_frozen BK301.out 2
     have hfz36_3 := blk_frozen BK301.out 3
     have hfz36_4 := blk_frozen BK301.out 4
     have hfz36_5 := blk_frozen BK301.out 5
     go_wp2
     refine bodyPost_ret (results_cell_row rfl _ _ gb301 28 #[.int .i64 x301000_1, .int .i64 x301001_1, .int .i64 x301002_1, .int .i64 x301003_1, .int .i64 x301004_1, .int .i64 x301005_1] (0, 0) _ rfl (by refine blk_put (cs := #[.int .i64 x301000_1, .int .i64 x301001_1, .int .i64 x301002_1, .int .i64 x301003_1, .int .i64 x301004_1, .int .i64 0]) ?_ 5 _ rfl; refine blk_put (cs := #[.int .i64 x301000_1, .int .i64 x301001_1, .int .i64 x301002_1, .int .i64 x301003_1, .int .i64 0, .int .i64 0]) ?_ 4 _ rfl; refine blk_put (cs := #[.int .i64 x301000_1, .int .i64 x301001_1, .int .i64 x301002_1, .int .i64 0, .int .i64 0, .int .i64 0]) ?_ 3 _ rfl; refine blk_put (cs := #[.int .i64 x301000_1, .int .i64 x301001_1, .int .i64 0, .int .i64 0, .int .i64 0, .int .i64 0]) ?_ 2 _ rfl; refine blk_put (cs := #[.int .i64 x301000_1, .int .i64 0, .int .i64 0, .int .i64 0, .int .i64 0, .int .i64 0]) ?_ 1 _ rfl; refine blk_put (cs := #[.int .i64 0, .int .i64 0, .int .i64 0, .int .i64 0, .int .i64 0, .int .i64 0]) ?_ 0 _ rfl; exact BK301.out) Try.underlying28 rfl (by kernel_rfl)) rfl ?_
     exact ⟨by first | rfl | (simp [errW_none, errW_some] <;> rfl) | (simp [*, errW_none, errW_some] <;> rfl), by repeat (with_reducible first | exact HB.out | apply pw_below_drewN | apply below_drew1 | refine below_set ?_ (Aside0.out (by assumption)))⟩
 ·replace c4 := Bool.eq_false_iff.mpr c4
  subst c4
  rw [if_neg (show ¬ (false = true) by decide)] at H; try dsimp only at H
  simp only [Option.some.injEq, Prod.mk.injEq] at H
  obtain ⟨rfl, rfl, rfl, rfl, rfl, rfl⟩ := H
  go_enter Try.func57, Try.ntmps57
  go_wp2_with (first | ((with_reducible refine gate_dst (N := 2) rfl ?_); refine box_event ?hg (N := 2) ?hd (cs := #[.int .i64 a0_0, .int .i64 a0_1, .int .i64 a0_2, .int .i64 a0_3, .int .i64 a0_4, .int .i64 a0_5]) (t := 28) ?hr ?_; (case hd => rfl); (case hg => rfl); (case hr => first | (go_simp; done) | (go_simp; rfl)); intro gb300 hg w37 hbox hb; have BK300 := Aside0.mk (hbox); have GW300 := Aside0.mk ((by rw [hg]; exact (below_size HB.out) : w.heap.size ≤ gb300)); have GE300 := Aside0.mk ((by rw [hg]; exact (below_size HB.out) : w.heap.size ≤ gb300)); replace HB := Aside0.mk (below_step HB.out hb); clear hb hbox hg) | ((with_reducible refine gate_dst (N := 4) rfl ?_); refine box_event ?hg (N := 4) ?hd (cs := #[.int .i64 0, .int .i64 0, .int .i64 0, .int .i64 0, .int .i64 0, .int .i64 0]) (t := 28) ?hr ?_; (case hd => rfl); (case hg => rfl); (case hr => first | (go_simp; done) | (go_simp; rfl)); intro gb301 hg w38 hbox hb; have BK301 := Aside0.mk (hbox); have GW301 := Aside0.mk ((by rw [hg]; exact (below_size (by repeat (with_reducible first | exact HB.out | apply pw_below_drewN | apply below_drew1 | refine below_set ?_ GE300.out))) : w.heap.size ≤ gb301)); have GE301 := Aside0.mk ((by rw [hg]; exact (below_size (by repeat (with_reducible first | exact HB.out | apply pw_below_drewN | apply below_drew1 | refine below_set ?_ GE300.out))) : w.heap.size ≤ gb301)); replace HB := Aside0.mk (below_step (by repeat (with_reducible first | exact HB.out | apply pw_below_drewN | apply below_drew1 | refine below_set ?_ GE300.out)) hb); have NB300_301 := Aside0.mk ((by rw [hg]; exact Nat.ne_of_lt (blk_lt BK300.out) : gb300 ≠ gb301)); have NB301_300 := Aside0.mk ((by rw [hg]; exact Nat.ne_of_gt (blk_lt BK300.out) : gb301 ≠ gb300)); replace BK300 := bl_ BK300 hb; clear hb hbox hg; have hnb39 := NB300_301.out; have hnc39 := NB301_300.out; have hcz40_0 : w38.cell? ⟨gb300, 0, none⟩ = some (.int .i64 a0_0) := (blk_cell BK300.out 0).trans rfl; have hcz40_1 : w38.cell? ⟨gb300, 1, none⟩ = some (.int .i64 a0_1) := (blk_cell BK300.out 1).trans rfl; have hcz40_2 : w38.cell? ⟨gb300, 2, none⟩ = some (.int .i64 a0_2) := (blk_cell BK300.out 2).trans rfl; have hcz40_3 : w38.cell? ⟨gb300, 3, none⟩ = some (.int .i64 a0_3) := (blk_cell BK300.out 3).trans rfl; have hcz40_4 : w38.cell? ⟨gb300, 4, none⟩ = some (.int .i64 a0_4) := (blk_cell BK300.out 4).trans rfl; have hcz40_5 : w38.cell? ⟨gb300, 5, none⟩ = some (.int .i64 a0_5) := (blk_cell BK300.out 5).trans rfl; have hfz40_0 := blk_frozen BK300.out 0; have hfz40_1 := blk_frozen BK300.out 1; have hfz40_2 := blk_frozen BK300.out 2; have hfz40_3 := blk_frozen BK300.out 3; have hfz40_4 := blk_frozen BK300.out 4; have hfz40_5 := blk_frozen BK300.out 5) | ((with_reducible refine gate_callee (f := 55) rfl ?_); refine goesL_ (some 7) rfl rfl Try.func55 (by kernel_rfl) rfl #[.agg #[.int .i64 a0_0, .int .i64 a0_1, .int .i64 a0_2, .int .i64 a0_3, .int .i64 a0_4, .int .i64 a0_5]] rfl (by (try simp only [List.map_toArray, List.map_cons, List.map_nil]); first | done | rfl | (simp only [List.length_drop, List.length_take]; rfl)) ?_; (with_reducible refine (watchmanref06_Is.calls a0_0 a0_1 a0_2 a0_3 a0_4 a0_5 false _ A3.out).mono ?_); rintro e w41 ⟨rfl, hb⟩; refine ⟨_, rfl, ?_⟩; replace BK300 := bl_ BK300 hb; replace BK301 := bl_ BK301 hb; replace HB := Aside0.mk (below_step (by repeat (with_reducible first | exact HB.out | apply pw_below_drewN | apply below_drew1 | refine below_set ?_ (Aside0.out (by assumption)))) hb); (try clear hb); (try clear hb2); (try clear hk); (try clear hi); have hcz42_0 : w41.cell? ⟨gb300, 0, none⟩ = some (.int .i64 a0_0) := (blk_cell BK300.out 0).trans rfl; have hcz42_1 : w41.cell? ⟨gb300, 1, none⟩ = some (.int .i64 a0_1) := (blk_cell BK300.out 1).trans rfl; have hcz42_2 : w41.cell? ⟨gb300, 2, none⟩ = some (.int .i64 a0_2) := (blk_cell BK300.out 2).trans rfl; have hcz42_3 : w41.cell? ⟨gb300, 3, none⟩ = some (.int .i64 a0_3) := (blk_cell BK300.out 3).trans rfl; have hcz42_4 : w41.cell? ⟨gb300, 4, none⟩ = some (.int .i64 a0_4) := (blk_cell BK300.out 4).trans rfl; have hcz42_5 : w41.cell? ⟨gb300, 5, none⟩ = some (.int .i64 a0_5) := (blk_cell BK300.out 5).trans rfl; have hfz42_0 := blk_frozen BK300.out 0; have hfz42_1 := blk_frozen BK300.out 1; have hfz42_2 := blk_frozen BK300.out 2; have hfz42_3 := blk_frozen BK300.out 3; have hfz42_4 := blk_frozen BK300.out 4; have hfz42_5 := blk_frozen BK300.out 5; have hcz43_0 : w41.cell? ⟨gb301, 0, none⟩ = some (.int .i64 0) := (blk_cell BK301.out 0).trans rfl; have hcz43_1 : w41.cell? ⟨gb301, 1, none⟩ = some (.int .i64 0) := (blk_cell BK301.out 1).trans rfl; have hcz43_2 : w41.cell? ⟨gb301, 2, none⟩ = some (.int .i64 0) := (blk_cell BK301.out 2).trans rfl; have hcz43_3 : w41.cell? ⟨gb301, 3, none⟩ = some (.int .i64 0) := (blk_cell BK301.out 3).trans rfl; have hcz43_4 : w41.cell? ⟨gb301, 4, none⟩ = some (.int .i64 0) := (blk_cell BK301.out 4).trans rfl; have hcz43_5 : w41.cell? ⟨gb301, 5, none⟩ = some (.int .i64 0) := (blk_cell BK301.out 5).trans rfl; have hfz43_0 := blk_frozen BK301.out 0; have hfz43_1 := blk_frozen BK301.out 1; have hfz43_2 := blk_frozen BK301.out 2; have hfz43_3 := blk_frozen BK301.out 3; have hfz43_4 := blk_frozen BK301.out 4; have hfz43_5 := blk_frozen BK301.out 5))
  refine bodyPost_ret (results_cell_row rfl _ _ gb301 28 #[.int .i64 a0_0, .int .i64 a0_1, .int .i64 a0_2, .int .i64 a0_3, .int .i64 a0_4, .int .i64 a0_5] (0, 0) _ rfl (by refine blk_put (cs := #[.int .i64 a0_0, .int .i64 a0_1, .int .i64 a0_2, .int .i64 a0_3, .int .i64 a0_4, .int .i64 0]) ?_ 5 _ rfl; refine blk_put (cs := #[.int .i64 a0_0, .int .i64 a0_1, .int .i64 a0_2, .int .i64 a0_3, .int .i64 0, .int .i64 0]) ?_ 4 _ rfl; refine blk_put (cs := #[.int .i64 a0_0, .int .i64 a0_1, .int .i64 a0_2, .int .i64 0, .int .i64 0, .int .i64 0]) ?_ 3 _ rfl; refine blk_put (cs := #[.int .i64 a0_0, .int .i64 a0_1, .int .i64 0, .int .i64 0, .int .i64 0, .int .i64 0]) ?_ 2 _ rfl; refine blk_put (cs := #[.int .i64 a0_0, .int .i64 0, .int .i64 0, .int .i64 0, .int .i64 0, .int .i64 0]) ?_ 1 _ rfl; refine blk_put (cs := #[.int .i64 0, .int .i64 0, .int .i64 0, .int .i64 0, .int .i64 0, .int .i64 0]) ?_ 0 _ rfl; exact BK301.out) Try.underlying28 rfl (by kernel_rfl)) rfl ?_
  exact ⟨by first | rfl | (simp [errW_none, errW_some] <;> rfl) | (simp [*, errW_none, errW_some] <;> rfl), by repeat (with_reducible first | exact HB.out | apply pw_below_drewN | apply below_drew1 | refine below_set ?_ (Aside0.out (by assumption)))⟩

end Go.Proofs.Ytcfpbmdndapeaaa.F
