-- Written by a program of this session (xprint.py), out of the translation and of contracts proved by hand.
import Derived.Test.YtlleifklioamlaaF0
import Derived.Test.YtlleifklioamlaaF6
namespace Go.Proofs.Ytlleifklioamlaa.F
open Go.RowKit Go.Proofs.YtlleifklioamlaaV.PrintWords Go.Proofs.YtlleifklioamlaaV.PrintLast Go.Proofs.YtlleifklioamlaaV.PrintMore
attribute [local go_sem] max2_int min2_int max_two min_two max_three min_three max_four min_four   -- for this text's walks alone
set_option linter.unusedVariables false
set_option linter.unusedSimpArgs false

/-! ### watchmanref06_turn: function 30 -/
def watchmanref06_turn.f (k : Nat) (a0_0 : Int) (a0_1 : Int) (a0_2 : Int) (a0_3 : Int) (a0_4 : Int) (a0_5 : Int) (a1 : Int) (a2 : Int) (a3 : Int) : Option (Int × Int × Int × Int × Int × Int) := (watchmanref05_Next.f k a0_2 a1).bind fun t => if a1 = 4 then some (a0_0, a0_1, t.1, a0_3, a0_4, wrap64 (a2 + a3)) else if a1 = 6 then (watchmanref06_Wait.f a0_3).bind fun s => some (a0_0, a0_1, t.1, a0_3, a0_4, wrap64 (a2 + s)) else some (a0_0, a0_1, t.1, a0_3, a0_4, a2)
theorem watchmanref06_turn.mono : ∀ a0 a1 a2 a3 a4 a5 a6 a7 a8 k, LeO (watchmanref06_turn.f k a0 a1 a2 a3 a4 a5 a6 a7 a8) (watchmanref06_turn.f (k + 1) a0 a1 a2 a3 a4 a5 a6 a7 a8) := by
  intro a0 a1 a2 a3 a4 a5 a6 a7 a8 k
  unfold watchmanref06_turn.f
  exact LeO.bind (watchmanref05_Next.mono _ _ _) (fun _ => LeO.refl _)
theorem watchmanref06_turn.first {w w1 : World} {X Y : Obj} (hb : Below ((w.alloc X).alloc Y).heap.size ((w.alloc X).alloc Y) w1) :
    Below w.heap.size w w1 ∧ w1.heap[w.heap.size]? = some X ∧ w1.heap[w.heap.size + 1]? = some Y := by
  refine ⟨below_then (below_alloc (below_alloc (Below.refl w.heap.size w) _) _) (by simp; omega) hb, blk_below (blk_alloc (blk_new w X) Y) hb, blk_below ?_ hb⟩
  have h_ := blk_new (w.alloc X) Y
  rw [show (w.alloc X).heap.size = w.heap.size + 1 from by simp] at h_
  exact h_
theorem watchmanref06_turn.c6 {w1 : World} {g t : Nat} {a0 a1 a2 a3 a4 a5 : Int} (h : w1.heap[g]? = some (.cells #[.int .i64 a0, .int .i64 a1, .int .i64 a2, .int .i64 a3, .int .i64 a4, .int .i64 a5] t (0, 0))) :
    (w1.cell? ⟨g, 0, none⟩ = some (.int .i64 a0) ∧ w1.cell? ⟨g, 1, none⟩ = some (.int .i64 a1) ∧ w1.cell? ⟨g, 2, none⟩ = some (.int .i64 a2) ∧ w1.cell? ⟨g, 3, none⟩ = some (.int .i64 a3) ∧ w1.cell? ⟨g, 4, none⟩ = some (.int .i64 a4) ∧ w1.cell? ⟨g, 5, none⟩ = some (.int .i64 a5)) ∧
    (w1.frozen? ⟨g, 0, none⟩ = false ∧ w1.frozen? ⟨g, 1, none⟩ = false ∧ w1.frozen? ⟨g, 2, none⟩ = false ∧ w1.frozen? ⟨g, 3, none⟩ = false ∧ w1.frozen? ⟨g, 4, none⟩ = false ∧ w1.frozen? ⟨g, 5, none⟩ = false) :=
  ⟨⟨(blk_cell h 0).trans rfl, (blk_cell h 1).trans rfl, (blk_cell h 2).trans rfl, (blk_cell h 3).trans rfl, (blk_cell h 4).trans rfl, (blk_cell h 5).trans rfl⟩, ⟨blk_frozen h 0, blk_frozen h 1, blk_frozen h 2, blk_frozen h 3, blk_frozen h 4, blk_frozen h 5⟩⟩
theorem watchmanref06_turn.put6 {w1 : World} {g t : Nat} {z : Value} {v0 v1 v2 v3 v4 v5 : Value} (h : w1.heap[g]? = some (.cells #[z, z, z, z, z, z] t (0, 0))) :
    ((((((w1.setCell ⟨g, 0, none⟩ v0).setCell ⟨g, 1, none⟩ v1).setCell ⟨g, 2, none⟩ v2).setCell ⟨g, 3, none⟩ v3).setCell ⟨g, 4, none⟩ v4).setCell ⟨g, 5, none⟩ v5).heap[g]? = some (.cells #[v0, v1, v2, v3, v4, v5] t (0, 0)) :=
  blk_put (cs := #[v0, v1, v2, v3, v4, z]) (blk_put (cs := #[v0, v1, v2, v3, z, z]) (blk_put (cs := #[v0, v1, v2, z, z, z]) (blk_put (cs := #[v0, v1, z, z, z, z]) (blk_put (cs := #[v0, z, z, z, z, z]) (blk_put h 0 _ rfl) 1 _ rfl) 2 _ rfl) 3 _ rfl) 4 _ rfl) 5 _ rfl
theorem watchmanref06_turn.twice {w1 : World} {g : Nat} {z : Value} (h : w1.cell? ⟨g, 5, none⟩ = some z) (a u v : Value) : (((w1.setCell ⟨g, 2, none⟩ a).setCell ⟨g, 5, none⟩ u).setCell ⟨g, 5, none⟩ v).cell? ⟨g, 5, none⟩ = some v :=
  World.cell?_setCell_same _ _ _ (World.cell?_setCell_same _ _ _ ((World.cell?_setCell_other _ _ _ _ (by simp)).trans h))
theorem watchmanref06_turn.twice2 {w1 : World} {g : Nat} {z : Value} (h : w1.cell? ⟨g, 5, none⟩ = some z) (n : Nat) (a u v : Value) : ((((w1.setCell ⟨g, 2, none⟩ a).setCell ⟨g, 5, none⟩ u).drewN n).setCell ⟨g, 5, none⟩ v).cell? ⟨g, 5, none⟩ = some v :=
  World.cell?_setCell_same _ _ _ (show ((w1.setCell ⟨g, 2, none⟩ a).setCell ⟨g, 5, none⟩ u).cell? ⟨g, 5, none⟩ = some u from World.cell?_setCell_same _ _ _ ((World.cell?_setCell_other _ _ _ _ (by simp)).trans h))
set_option maxHeartbeats 8000000 in
set_option maxRecDepth 100000 in
theorem watchmanref06_turn.go (a0_0 a0_1 a0_2 a0_3 a0_4 a0_5 a1 a2 a3 q x s : Int) (b : Bool) (w : World) (b4 b6 : Bool) (h4 : (a1 == 4) = b4) (h6 : (a1 == 6) = b6) (hx : x = if b4 = true then wrap64 (a2 + a3) else if b6 = true then wrap64 (a2 + s) else a2) (h46 : b4 = true → b6 = false)
    (HN : Aside0 (∀ w, Calls Try.prog 29 #[.int .i64 a0_2, .int .i64 a1] w fun e w' => e = .returned (.tuple #[.int .i64 q, .bool b]) ∧ Below w.heap.size w w')) (HW : Aside0 (∀ w, Calls Try.prog 21 #[.int .i64 a0_3] w fun e w' => e = .returned (.int .i64 s) ∧ Drawn0 w w')) :
    Calls Try.prog 30 #[.agg #[.int .i64 a0_0, .int .i64 a0_1, .int .i64 a0_2, .int .i64 a0_3, .int .i64 a0_4, .int .i64 a0_5], .int .i64 a1, .int .i64 a2, .int .i64 a3] w fun e w' => e = .returned (.agg #[.int .i64 a0_0, .int .i64 a0_1, .int .i64 q, .int .i64 a0_3, .int .i64 a0_4, .int .i64 x]) ∧ Below w.heap.size w w' := by
  cases b4 with
  | true =>
    have hb6 := h46 rfl
    subst hb6
    rw [if_pos rfl] at hx
    subst hx
    clear h46
    go_enter Try.func30, Try.ntmps30
    go_wp2_with (go_at_call 29; refine (HN.out _).mono ?_; rintro e w1 ⟨rfl, hd⟩; obtain ⟨q0, q1, q2⟩ := watchmanref06_turn.first hd; have HB := Aside0.mk q0; have K0 := Aside0.mk q1; have K1 := Aside0.mk q2; clear q0 q1 q2 hd; obtain ⟨⟨hc0, hc1, hc2, hc3, hc4, hc5⟩, hf0, hf1, hf2, hf3, hf4, hf5⟩ := watchmanref06_turn.c6 K0.out; obtain ⟨⟨hz0, hz1, hz2, hz3, hz4, hz5⟩, hg0, hg1, hg2, hg3, hg4, hg5⟩ := watchmanref06_turn.c6 K1.out; have hss := watchmanref06_turn.twice hc5; have hst := watchmanref06_turn.twice2 hc5)
    refine bodyPost_ret (results_cell_row rfl _ _ (w.heap.size + 1) 25 #[.int .i64 a0_0, .int .i64 a0_1, .int .i64 q, .int .i64 a0_3, .int .i64 a0_4, .int .i64 (wrap64 (a2 + a3))] (0, 0) _ rfl (by (with_reducible repeat (first | refine blk_drewN ?_ _)); refine watchmanref06_turn.put6 (z := .int .i64 0) ?_; (with_reducible repeat (first | refine blk_drewN ?_ _ | refine blk_far ?_ (by show w.heap.size + 1 ≠ w.heap.size; omega) _)); exact K1.out) Try.underlying25 rfl (by kernel_rfl)) rfl ?_
    exact ⟨rfl, by repeat (first | (with_reducible first | exact HB.out | apply pw_below_drewN | refine below_set ?_ (Nat.le_succ _) | refine below_set ?_ (Nat.le_refl _)) | exact HB.out)⟩
  | false =>
    rw [if_neg (by simp)] at hx
    clear h46
    cases b6 with
    | true =>
      rw [if_pos rfl] at hx
      subst hx
      go_enter Try.func30, Try.ntmps30
      go_wp2_with (first | (go_at_call 29; refine (HN.out _).mono ?_; rintro e w1 ⟨rfl, hd⟩; obtain ⟨q0, q1, q2⟩ := watchmanref06_turn.first hd; have HB := Aside0.mk q0; have K0 := Aside0.mk q1; have K1 := Aside0.mk q2; clear q0 q1 q2 hd; obtain ⟨⟨hc0, hc1, hc2, hc3, hc4, hc5⟩, hf0, hf1, hf2, hf3, hf4, hf5⟩ := watchmanref06_turn.c6 K0.out; obtain ⟨⟨hz0, hz1, hz2, hz3, hz4, hz5⟩, hg0, hg1, hg2, hg3, hg4, hg5⟩ := watchmanref06_turn.c6 K1.out; have hss := watchmanref06_turn.twice hc5; have hst := watchmanref06_turn.twice2 hc5) | (go_at_call 21; refine (HW.out _).mono ?_; rintro e w2 ⟨rfl, ⟨n2, rfl⟩⟩))
      refine bodyPost_ret (results_cell_row rfl _ _ (w.heap.size + 1) 25 #[.int .i64 a0_0, .int .i64 a0_1, .int .i64 q, .int .i64 a0_3, .int .i64 a0_4, .int .i64 (wrap64 (a2 + s))] (0, 0) _ rfl (by (with_reducible repeat (first | refine blk_drewN ?_ _)); refine watchmanref06_turn.put6 (z := .int .i64 0) ?_; (with_reducible repeat (first | refine blk_drewN ?_ _ | refine blk_far ?_ (by show w.heap.size + 1 ≠ w.heap.size; omega) _)); exact K1.out) Try.underlying25 rfl (by kernel_rfl)) rfl ?_
      exact ⟨rfl, by repeat (first | (with_reducible first | exact HB.out | apply pw_below_drewN | refine below_set ?_ (Nat.le_succ _) | refine below_set ?_ (Nat.le_refl _)) | exact HB.out)⟩
    | false =>
      rw [if_neg (by simp)] at hx
      subst hx
      go_enter Try.func30, Try.ntmps30
      go_wp2_with (go_at_call 29; refine (HN.out _).mono ?_; rintro e w1 ⟨rfl, hd⟩; obtain ⟨q0, q1, q2⟩ := watchmanref06_turn.first hd; have HB := Aside0.mk q0; have K0 := Aside0.mk q1; have K1 := Aside0.mk q2; clear q0 q1 q2 hd; obtain ⟨⟨hc0, hc1, hc2, hc3, hc4, hc5⟩, hf0, hf1, hf2, hf3, hf4, hf5⟩ := watchmanref06_turn.c6 K0.out; obtain ⟨⟨hz0, hz1, hz2, hz3, hz4, hz5⟩, hg0, hg1, hg2, hg3, hg4, hg5⟩ := watchmanref06_turn.c6 K1.out; have hss := watchmanref06_turn.twice hc5; have hst := watchmanref06_turn.twice2 hc5)
      refine bodyPost_ret (results_cell_row rfl _ _ (w.heap.size + 1) 25 #[.int .i64 a0_0, .int .i64 a0_1, .int .i64 q, .int .i64 a0_3, .int .i64 a0_4, .int .i64 x] (0, 0) _ rfl (by (with_reducible repeat (first | refine blk_drewN ?_ _)); refine watchmanref06_turn.put6 (z := .int .i64 0) ?_; (with_reducible repeat (first | refine blk_drewN ?_ _ | refine blk_far ?_ (by show w.heap.size + 1 ≠ w.heap.size; omega) _)); exact K1.out) Try.underlying25 rfl (by kernel_rfl)) rfl ?_
      exact ⟨rfl, by repeat (first | (with_reducible first | exact HB.out | apply pw_below_drewN | refine below_set ?_ (Nat.le_succ _) | refine below_set ?_ (Nat.le_refl _)) | exact HB.out)⟩
theorem watchmanref06_turn.calls (k : Nat) (a0_0 : Int) (a0_1 : Int) (a0_2 : Int) (a0_3 : Int) (a0_4 : Int) (a0_5 : Int) (a1 : Int) (a2 : Int) (a3 : Int) (r1 : Int) (r2 : Int) (r3 : Int) (r4 : Int) (r5 : Int) (r6 : Int) (w : World) (h : watchmanref06_turn.f k a0_0 a0_1 a0_2 a0_3 a0_4 a0_5 a1 a2 a3 = some (r1, r2, r3, r4, r5, r6)) :
    Calls Try.prog 30 #[.agg #[.int .i64 a0_0, .int .i64 a0_1, .int .i64 a0_2, .int .i64 a0_3, .int .i64 a0_4, .int .i64 a0_5], .int .i64 a1, .int .i64 a2, .int .i64 a3] w fun e w' => e = .returned (.agg #[.int .i64 r1, .int .i64 r2, .int .i64 r3, .int .i64 r4, .int .i64 r5, .int .i64 r6]) ∧ Below w.heap.size w w' := by
  obtain ⟨⟨q, b⟩, A1, h⟩ := Option.bind_eq_some_iff.mp h
  have HN := Aside0.mk (fun w => watchmanref05_Next.calls k a0_2 a1 q b w A1)
  obtain ⟨s, hs⟩ : ∃ s, watchmanref06_Wait.f a0_3 = some s := by
    unfold watchmanref06_Wait.f
    split
    · exact ⟨_, rfl⟩
    · split
      · exact ⟨_, rfl⟩
      · split <;> exact ⟨_, rfl⟩
  have HW := Aside0.mk (fun w => watchmanref06_Wait.calls a0_3 s w hs)
  by_cases h4 : a1 = 4
  · rw [if_pos h4] at h
    simp only [Option.some.injEq, Prod.mk.injEq] at h
    obtain ⟨rfl, rfl, rfl, rfl, rfl, rfl⟩ := h
    exact watchmanref06_turn.go _ _ _ _ _ _ a1 a2 a3 _ _ s b w true false (beq_iff_eq.mpr h4) (beq_eq_false_iff_ne.mpr (by omega)) rfl (fun _ => rfl) HN HW
  · rw [if_neg h4] at h
    by_cases h6 : a1 = 6
    · rw [if_pos h6, hs] at h
      simp only [Option.bind_some, Option.some.injEq, Prod.mk.injEq] at h
      obtain ⟨rfl, rfl, rfl, rfl, rfl, rfl⟩ := h
      exact watchmanref06_turn.go _ _ _ _ _ _ a1 a2 a3 _ _ s b w false true (beq_eq_false_iff_ne.mpr h4) (beq_iff_eq.mpr h6) rfl (fun h_ => absurd h_ (by simp)) HN HW
    · rw [if_neg h6] at h
      simp only [Option.some.injEq, Prod.mk.injEq] at h
      obtain ⟨rfl, rfl, rfl, rfl, rfl, rfl⟩ := h
      exact watchmanref06_turn.go _ _ _ _ _ _ a1 a2 a3 _ _ s b w false false (beq_eq_false_iff_ne.mpr h4) (beq_eq_false_iff_ne.mpr h6) rfl (fun h_ => absurd h_ (by simp)) HN HW

end Go.Proofs.Ytlleifklioamlaa.F
