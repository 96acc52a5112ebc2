-- Written by a program of this session (xprint.py), out of the translation and of contracts proved by hand.
import Derived.Test.YtncoccpgdgdknaaF0
import Derived.Test.YtncoccpgdgdknaaF1
import Derived.Test.YtncoccpgdgdknaaF2
import Derived.Test.YtncoccpgdgdknaaF7
namespace Go.Proofs.Ytncoccpgdgdknaa.F
open Go.RowKit Go.Proofs.YtncoccpgdgdknaaW.PrintWords Go.Proofs.YtncoccpgdgdknaaW.PrintLast Go.Proofs.YtncoccpgdgdknaaW.PrintMore
attribute [local go_sem] max2_int min2_int max_two min_two max_three min_three max_four min_four   -- for this text's walks alone
set_option linter.unusedVariables false
set_option linter.unusedSimpArgs false

/-! ### watchmanlaw23_LogThree: function 5 -/
def watchmanlaw23_LogThree.j0 : Nat → List ByteArray → List ByteArray → List ByteArray → Bool → Option (Bool)
  | 0, _, _, _, _ => none
  | k + 1, x0, x1, x2, x17 => if x17 = true then (some true) else ((log_Common.f k (([x0, x1, x2] : List (List ByteArray)))).bind fun t332 => ((watchmanlaw23_joined.f k).bind fun t333 => (if t333 = true then ((log_Common.f k (([x0, x1] : List (List ByteArray)))).bind fun t337 => ((log_Common.f k (([x0, x2] : List (List ByteArray)))).bind fun t341 => (if t332 = (mn t337 t341) then ((log_Common.f k (([x2, x0, x1] : List (List ByteArray)))).bind fun t345 => (if t332 = t345 then ((log_Common.f k (([x1, x2, x0, x1] : List (List ByteArray)))).bind fun t349 => (if t332 = t349 then (if 0 ≤ (mn t332 (x0.length : Int)) then (if (mn t332 (x0.length : Int)) ≤ (x0.length : Int) then ((log_Front.f k (x0.take ((mn t332 (x0.length : Int)) : Int).toNat) x2).bind fun t355 => (some t355)) else (none)) else (none)) else (none))) else (none))) else (none)))) else (none))))
def watchmanlaw23_LogThree.f (k : Nat) (l0 : List ByteArray) (l1 : List ByteArray) (l2 : List ByteArray) : Option (Bool) := (watchmanlaw23_far.f k l0).bind fun t326 => (if t326 = true then (watchmanlaw23_LogThree.j0 k l0 l1 l2 true) else ((watchmanlaw23_far.f k l1).bind fun t327 => (if t327 = true then (watchmanlaw23_LogThree.j0 k l0 l1 l2 true) else ((watchmanlaw23_far.f k l2).bind fun t328 => (watchmanlaw23_LogThree.j0 k l0 l1 l2 t328)))))
theorem watchmanlaw23_LogThree.mono_l : ∀ k, (∀ y0 y1 y2 y3, LeO (watchmanlaw23_LogThree.j0 k y0 y1 y2 y3) (watchmanlaw23_LogThree.j0 (k + 1) y0 y1 y2 y3))
  | 0 => fun _ _ _ _ r h => by simp [watchmanlaw23_LogThree.j0] at h
  | k + 1 => by
    have ih0 := watchmanlaw23_LogThree.mono_l k
    · intro y0 y1 y2 y3
      unfold watchmanlaw23_LogThree.j0
      repeat' first
      | (with_reducible exact ih0 _ _ _ _)
      | (with_reducible exact log_Common.mono _ _)
      | (with_reducible exact log_Front.mono _ _ _)
      | (with_reducible exact watchmanlaw23_far.mono _ _)
      | (with_reducible exact watchmanlaw23_joined.mono _)
      | (with_reducible exact LeO.refl _)
      | (with_reducible exact LeO.none _)
      | (with_reducible refine LeO.ite ?_ ?_)
      | (with_reducible refine LeO.bind ?_ (fun _ => ?_))
      | exact ih0 _ _ _ _
      | exact log_Common.mono _ _
      | exact log_Front.mono _ _ _
      | exact watchmanlaw23_far.mono _ _
      | exact watchmanlaw23_joined.mono _
      | exact LeO.none _
      | refine LeO.ite ?_ ?_
      | refine LeO.bind ?_ (fun _ => ?_)
theorem watchmanlaw23_LogThree.mono : ∀ a0 a1 a2 k, LeO (watchmanlaw23_LogThree.f k a0 a1 a2) (watchmanlaw23_LogThree.f (k + 1) a0 a1 a2) := by
  intro a0 a1 a2 k
  have ih0 := watchmanlaw23_LogThree.mono_l k
  unfold watchmanlaw23_LogThree.f
  repeat' first
      | (with_reducible exact ih0 _ _ _ _)
      | (with_reducible exact log_Common.mono _ _)
      | (with_reducible exact log_Front.mono _ _ _)
      | (with_reducible exact watchmanlaw23_far.mono _ _)
      | (with_reducible exact watchmanlaw23_joined.mono _)
      | (with_reducible exact LeO.refl _)
      | (with_reducible exact LeO.none _)
      | (with_reducible refine LeO.ite ?_ ?_)
      | (with_reducible refine LeO.bind ?_ (fun _ => ?_))
      | exact ih0 _ _ _ _
      | exact log_Common.mono _ _
      | exact log_Front.mono _ _ _
      | exact watchmanlaw23_far.mono _ _
      | exact watchmanlaw23_joined.mono _
      | exact LeO.none _
      | refine LeO.ite ?_ ?_
      | refine LeO.bind ?_ (fun _ => ?_)
set_option maxHeartbeats 8000000 in
set_option maxRecDepth 100000 in
theorem watchmanlaw23_LogThree.calls (k : Nat) (P0_ : Nat → Prop) (A0 : Option Addr) (c0 : Nat) (l0 : List ByteArray) (P1_ : Nat → Prop) (A1 : Option Addr) (c1 : Nat) (l1 : List ByteArray) (P2_ : Nat → Prop) (A2 : Option Addr) (c2 : Nat) (l2 : List ByteArray) (r : Bool) (w : World) (hs0 : Kd.V Kd.string 9 w w.heap.size (fun k_ => P0_ k_) (.slice A0 l0.length c0) l0) (hs1 : Kd.V Kd.string 9 w w.heap.size (fun k_ => P1_ k_) (.slice A1 l1.length c1) l1) (hs2 : Kd.V Kd.string 9 w w.heap.size (fun k_ => P2_ k_) (.slice A2 l2.length c2) l2) (h : watchmanlaw23_LogThree.f k l0 l1 l2 = some r) :
    Calls Try.prog 5 #[.slice A0 l0.length c0, .slice A1 l1.length c1, .slice A2 l2.length c2] w fun e w' => e = .returned (.bool r) ∧ Below w.heap.size w w' := by
  have HO0 := Aside0.mk (show Kd.V Kd.string 9 w w.heap.size (fun k_ => ((P0_ k_ ∨ P1_ k_ ∨ P2_ k_) ∨ w.heap.size ≤ k_)) (.slice A0 l0.length c0) l0 from Kd.V_mono hs0 (fun k_ hk => .inl (.inl hk)))
  have HO1 := Aside0.mk (show Kd.V Kd.string 9 w w.heap.size (fun k_ => ((P0_ k_ ∨ P1_ k_ ∨ P2_ k_) ∨ w.heap.size ≤ k_)) (.slice A1 l1.length c1) l1 from Kd.V_mono hs1 (fun k_ hk => .inl (.inr (.inl hk))))
  have HO2 := Aside0.mk (show Kd.V Kd.string 9 w w.heap.size (fun k_ => ((P0_ k_ ∨ P1_ k_ ∨ P2_ k_) ∨ w.heap.size ≤ k_)) (.slice A2 l2.length c2) l2 from Kd.V_mono hs2 (fun k_ hk => .inl (.inr (.inr hk))))
  have HB := Aside0.mk (Below.refl w.heap.size w)
  have H : ((watchmanlaw23_far.f k l0).bind fun t326 => (if t326 = true then (watchmanlaw23_LogThree.j0 k l0 l1 l2 true) else ((watchmanlaw23_far.f k l1).bind fun t327 => (if t327 = true then (watchmanlaw23_LogThree.j0 k l0 l1 l2 true) else ((watchmanlaw23_far.f k l2).bind fun t328 => (watchmanlaw23_LogThree.j0 k l0 l1 l2 t328)))))) = some r := h
  clear h
  have HC4 := Aside0.mk H
  clear H
  go_enter Try.func5, Try.ntmps5
  go_upto_region 1 with (fail)
  go_cut [17] (fun v17 wc => ∃ (kq : Nat) (x17_3 : Bool), v17 = .bool x17_3 ∧ Aside0 (watchmanlaw23_LogThree.j0 kq l0 l1 l2 x17_3 = some r) ∧ Aside0 (kq ≤ k) ∧ Aside0 (Kd.V Kd.string 9 wc w.heap.size (fun k_ => ((P0_ k_ ∨ P1_ k_ ∨ P2_ k_) ∨ w.heap.size ≤ k_)) (.slice A0 l0.length c0) l0) ∧ Aside0 (Kd.V Kd.string 9 wc w.heap.size (fun k_ => ((P0_ k_ ∨ P1_ k_ ∨ P2_ k_) ∨ w.heap.size ≤ k_)) (.slice A1 l1.length c1) l1) ∧ Aside0 (Kd.V Kd.string 9 wc w.heap.size (fun k_ => ((P0_ k_ ∨ P1_ k_ ∨ P2_ k_) ∨ w.heap.size ≤ k_)) (.slice A2 l2.length c2) l2) ∧ Aside0 (Below w.heap.size w wc))
  case first =>
    have H := HC4.out
    clear HC4
    replace H := Option.bind_eq_some_iff.mp H
    obtain ⟨t326, A50, H⟩ := H
    replace H : (if t326 = true then (watchmanlaw23_LogThree.j0 k l0 l1 l2 true) else ((watchmanlaw23_far.f k l1).bind fun t327 => (if t327 = true then (watchmanlaw23_LogThree.j0 k l0 l1 l2 true) else ((watchmanlaw23_far.f k l2).bind fun t328 => (watchmanlaw23_LogThree.j0 k l0 l1 l2 t328))))) = some r := H
    have A5 := Aside0.mk A50
    clear A50
    by_cases c6 : t326 = true
    · subst c6
      have H1 : (watchmanlaw23_LogThree.j0 k l0 l1 l2 true) = some r := by rw [if_pos rfl] at H; exact H
      clear H
      have H := H1
      clear H1
      have H' := Aside0.mk H
      clear H
      go_wp2_with (first | ((with_reducible refine gate_callee (f := 8) rfl ?_); refine goesL_ (some 9) rfl rfl Try.func8 (by kernel_rfl) rfl #[.slice A0 l0.length c0] rfl (by (try simp only [List.map_toArray, List.map_cons, List.map_nil]); first | done | rfl | (simp only [List.length_drop, List.length_take]; rfl)) ?_; (with_reducible refine (watchmanlaw23_far.calls k _ _ l0 true _ ?side1 ?side2 A5.out).mono ?_); (case side1 => repeat (first | exact (Kd.V_reads' HO0.out).2.2 | (with_reducible refine Kd.C_alloc ?_ _) | (with_reducible refine Kd.C_drewN ?_ _) | (with_reducible refine Kd.C_drew ?_))); (case side2 => exact (Kd.V_reads' HO0.out).2.1); rintro e w' ⟨rfl, ⟨nd, rfl⟩⟩; refine ⟨_, rfl, ?_⟩))
      go_meet
      case rel => exact ⟨_, (true), (by first | rfl | (simp; done) | (simp [*]; done)), H', ⟨by first | omega | exact Nat.le_refl _⟩, ⟨by (with_reducible repeat (first | apply Kd.V_alloc | apply Kd.V_drewN | apply Kd.V_drew)); exact HO0.out⟩, ⟨by (with_reducible repeat (first | apply Kd.V_alloc | apply Kd.V_drewN | apply Kd.V_drew)); exact HO1.out⟩, ⟨by (with_reducible repeat (first | apply Kd.V_alloc | apply Kd.V_drewN | apply Kd.V_drew)); exact HO2.out⟩, ⟨by repeat (first | (with_reducible first | exact HB.out | apply below_alloc | apply pw_below_drewN | apply below_drew1) | exact HB.out)⟩⟩
    · replace c6 := Bool.eq_false_iff.mpr c6
      subst c6
      have H1 : ((watchmanlaw23_far.f k l1).bind fun t327 => (if t327 = true then (watchmanlaw23_LogThree.j0 k l0 l1 l2 true) else ((watchmanlaw23_far.f k l2).bind fun t328 => (watchmanlaw23_LogThree.j0 k l0 l1 l2 t328)))) = some r := by rw [if_neg (show ¬ (false = true) by decide)] at H; exact H
      clear H
      have H := H1
      clear H1
      replace H := Option.bind_eq_some_iff.mp H
      obtain ⟨t327, A70, H⟩ := H
      replace H : (if t327 = true then (watchmanlaw23_LogThree.j0 k l0 l1 l2 true) else ((watchmanlaw23_far.f k l2).bind fun t328 => (watchmanlaw23_LogThree.j0 k l0 l1 l2 t328))) = some r := H
      have A7 := Aside0.mk A70
      clear A70
      by_cases c8 : t327 = true
      · subst c8
        have H1 : (watchmanlaw23_LogThree.j0 k l0 l1 l2 true) = some r := by rw [if_pos rfl] at H; exact H
        clear H
        have H := H1
        clear H1
        have H' := Aside0.mk H
        clear H
        go_wp2_with (first | ((with_reducible refine gate_callee (f := 8) rfl ?_); refine goesL_ (some 9) rfl rfl Try.func8 (by kernel_rfl) rfl #[.slice A0 l0.length c0] rfl (by (try simp only [List.map_toArray, List.map_cons, List.map_nil]); first | done | rfl | (simp only [List.length_drop, List.length_take]; rfl)) ?_; (with_reducible refine (watchmanlaw23_far.calls k _ _ l0 false _ ?side1 ?side2 A5.out).mono ?_); (case side1 => repeat (first | exact (Kd.V_reads' HO0.out).2.2 | (with_reducible refine Kd.C_alloc ?_ _) | (with_reducible refine Kd.C_drewN ?_ _) | (with_reducible refine Kd.C_drew ?_))); (case side2 => exact (Kd.V_reads' HO0.out).2.1); (try clear A5); rintro e w' ⟨rfl, ⟨nd, rfl⟩⟩; refine ⟨_, rfl, ?_⟩) | (go_at_call 8; (with_reducible refine (watchmanlaw23_far.calls k _ _ l1 true _ ?side1 ?side2 A7.out).mono ?_); (case side1 => repeat (first | exact (Kd.V_reads' HO1.out).2.2 | (with_reducible refine Kd.C_alloc ?_ _) | (with_reducible refine Kd.C_drewN ?_ _) | (with_reducible refine Kd.C_drew ?_))); (case side2 => exact (Kd.V_reads' HO1.out).2.1); (try clear A7); rintro e w' ⟨rfl, ⟨nd, rfl⟩⟩))
        go_meet
        case rel => exact ⟨_, (true), (by first | rfl | (simp; done) | (simp [*]; done)), H', ⟨by first | omega | exact Nat.le_refl _⟩, ⟨by (with_reducible repeat (first | apply Kd.V_alloc | apply Kd.V_drewN | apply Kd.V_drew)); exact HO0.out⟩, ⟨by (with_reducible repeat (first | apply Kd.V_alloc | apply Kd.V_drewN | apply Kd.V_drew)); exact HO1.out⟩, ⟨by (with_reducible repeat (first | apply Kd.V_alloc | apply Kd.V_drewN | apply Kd.V_drew)); exact HO2.out⟩, ⟨by repeat (first | (with_reducible first | exact HB.out | apply below_alloc | apply pw_below_drewN | apply below_drew1) | exact HB.out)⟩⟩
      · replace c8 := Bool.eq_false_iff.mpr c8
        subst c8
        have H1 : ((watchmanlaw23_far.f k l2).bind fun t328 => (watchmanlaw23_LogThree.j0 k l0 l1 l2 t328)) = some r := by rw [if_neg (show ¬ (false = true) by decide)] at H; exact H
        clear H
        have H := H1
        clear H1
        replace H := Option.bind_eq_some_iff.mp H
        obtain ⟨t328, A90, H⟩ := H
        replace H : (watchmanlaw23_LogThree.j0 k l0 l1 l2 t328) = some r := H
        have A9 := Aside0.mk A90
        clear A90
        have H' := Aside0.mk H
        clear H
        go_wp2_with (first | ((with_reducible refine gate_callee (f := 8) rfl ?_); refine goesL_ (some 9) rfl rfl Try.func8 (by kernel_rfl) rfl #[.slice A0 l0.length c0] rfl (by (try simp only [List.map_toArray, List.map_cons, List.map_nil]); first | done | rfl | (simp only [List.length_drop, List.length_take]; rfl)) ?_; (with_reducible refine (watchmanlaw23_far.calls k _ _ l0 false _ ?side1 ?side2 A5.out).mono ?_); (case side1 => repeat (first | exact (Kd.V_reads' HO0.out).2.2 | (with_reducible refine Kd.C_alloc ?_ _) | (with_reducible refine Kd.C_drewN ?_ _) | (with_reducible refine Kd.C_drew ?_))); (case side2 => exact (Kd.V_reads' HO0.out).2.1); (try clear A5); rintro e w' ⟨rfl, ⟨nd, rfl⟩⟩; refine ⟨_, rfl, ?_⟩) | (go_at_call 8; (with_reducible refine (watchmanlaw23_far.calls k _ _ l1 false _ ?side1 ?side2 A7.out).mono ?_); (case side1 => repeat (first | exact (Kd.V_reads' HO1.out).2.2 | (with_reducible refine Kd.C_alloc ?_ _) | (with_reducible refine Kd.C_drewN ?_ _) | (with_reducible refine Kd.C_drew ?_))); (case side2 => exact (Kd.V_reads' HO1.out).2.1); (try clear A7); rintro e w' ⟨rfl, ⟨nd, rfl⟩⟩) | (go_at_call 8; (with_reducible refine (watchmanlaw23_far.calls k _ _ l2 t328 _ ?side1 ?side2 A9.out).mono ?_); (case side1 => repeat (first | exact (Kd.V_reads' HO2.out).2.2 | (with_reducible refine Kd.C_alloc ?_ _) | (with_reducible refine Kd.C_drewN ?_ _) | (with_reducible refine Kd.C_drew ?_))); (case side2 => exact (Kd.V_reads' HO2.out).2.1); (try clear A9); rintro e w' ⟨rfl, ⟨nd, rfl⟩⟩))
        go_meet
        case rel => exact ⟨_, (t328), (by first | rfl | (simp; done) | (simp [*]; done)), H', ⟨by first | omega | exact Nat.le_refl _⟩, ⟨by (with_reducible repeat (first | apply Kd.V_alloc | apply Kd.V_drewN | apply Kd.V_drew)); exact HO0.out⟩, ⟨by (with_reducible repeat (first | apply Kd.V_alloc | apply Kd.V_drewN | apply Kd.V_drew)); exact HO1.out⟩, ⟨by (with_reducible repeat (first | apply Kd.V_alloc | apply Kd.V_drewN | apply Kd.V_drew)); exact HO2.out⟩, ⟨by repeat (first | (with_reducible first | exact HB.out | apply below_alloc | apply pw_below_drewN | apply below_drew1) | exact HB.out)⟩⟩
  case rest =>
    clear HC4
    try clear c1
    try clear c2
    try clear p2
    try clear c5
    try clear c6
    try clear c8
    obtain ⟨kq, x17_3, rfl, HA, HJ3, HO_0, HO_1, HO_2, HB⟩ := hcut
    cases kq with
    | zero => exact absurd HA.out (by simp [watchmanlaw23_LogThree.j0])
    | succ kj3 =>
      have H := HA.out
      clear HA
      simp only [watchmanlaw23_LogThree.j0] at H
      by_cases c10 : x17_3 = true
      · subst c10
        have H1 : (some true) = some r := by rw [if_pos rfl] at H; exact H
        clear H
        have H := H1
        clear H1
        obtain rfl := Option.some.inj H
        go_wp2
        go_ret
        exact ⟨by first | rfl | (simp [errW_none, errW_some] <;> rfl) | (simp [*, errW_none, errW_some] <;> rfl), by repeat (first | (with_reducible first | exact HB.out | apply below_alloc | apply pw_below_drewN | apply below_drew1) | exact HB.out)⟩
      · replace c10 := Bool.eq_false_iff.mpr c10
        subst c10
        have H1 : ((log_Common.f kj3 (([l0, l1, l2] : List (List ByteArray)))).bind fun t332 => ((watchmanlaw23_joined.f kj3).bind fun t333 => (if t333 = true then ((log_Common.f kj3 (([l0, l1] : List (List ByteArray)))).bind fun t337 => ((log_Common.f kj3 (([l0, l2] : List (List ByteArray)))).bind fun t341 => (if t332 = (mn t337 t341) then ((log_Common.f kj3 (([l2, l0, l1] : List (List ByteArray)))).bind fun t345 => (if t332 = t345 then ((log_Common.f kj3 (([l1, l2, l0, l1] : List (List ByteArray)))).bind fun t349 => (if t332 = t349 then (if 0 ≤ (mn t332 (l0.length : Int)) then (if (mn t332 (l0.length : Int)) ≤ (l0.length : Int) then ((log_Front.f kj3 (l0.take ((mn t332 (l0.length : Int)) : Int).toNat) l2).bind fun t355 => (some t355)) else (none)) else (none)) else (none))) else (none))) else (none)))) else (none)))) = some r := by rw [if_neg (show ¬ (false = true) by decide)] at H; exact H
        clear H
        have H := H1
        clear H1
        obtain ⟨y329, hy329⟩ : ∃ y_ : List (List ByteArray), y_ = (([l0, l1, l2] : List (List ByteArray))) := ⟨_, rfl⟩
        replace H : ((log_Common.f kj3 y329).bind fun t332 => ((watchmanlaw23_joined.f kj3).bind fun t333 => (if t333 = true then ((log_Common.f kj3 (([l0, l1] : List (List ByteArray)))).bind fun t337 => ((log_Common.f kj3 (([l0, l2] : List (List ByteArray)))).bind fun t341 => (if t332 = (mn t337 t341) then ((log_Common.f kj3 (([l2, l0, l1] : List (List ByteArray)))).bind fun t345 => (if t332 = t345 then ((log_Common.f kj3 (([l1, l2, l0, l1] : List (List ByteArray)))).bind fun t349 => (if t332 = t349 then (if 0 ≤ (mn t332 (l0.length : Int)) then (if (mn t332 (l0.length : Int)) ≤ (l0.length : Int) then ((log_Front.f kj3 (l0.take ((mn t332 (l0.length : Int)) : Int).toNat) l2).bind fun t355 => (some t355)) else (none)) else (none)) else (none))) else (none))) else (none)))) else (none)))) = some r := by first | (rw [hy329]; with_reducible exact H) | (have H2_ := (Option.bind_some _ _).symm.trans H; rw [hy329]; with_reducible exact H2_) | (have H2_ := (Option.bind_some _ _).symm.trans H; with_reducible exact H2_) | with_reducible exact H | (rw [hy329]; exact H) | exact H
        have Ny329 := Aside0.mk hy329
        clear hy329
        replace H := Option.bind_eq_some_iff.mp H
        obtain ⟨t332, A110, H⟩ := H
        replace H : ((watchmanlaw23_joined.f kj3).bind fun t333 => (if t333 = true then ((log_Common.f kj3 (([l0, l1] : List (List ByteArray)))).bind fun t337 => ((log_Common.f kj3 (([l0, l2] : List (List ByteArray)))).bind fun t341 => (if t332 = (mn t337 t341) then ((log_Common.f kj3 (([l2, l0, l1] : List (List ByteArray)))).bind fun t345 => (if t332 = t345 then ((log_Common.f kj3 (([l1, l2, l0, l1] : List (List ByteArray)))).bind fun t349 => (if t332 = t349 then (if 0 ≤ (mn t332 (l0.length : Int)) then (if (mn t332 (l0.length : Int)) ≤ (l0.length : Int) then ((log_Front.f kj3 (l0.take ((mn t332 (l0.length : Int)) : Int).toNat) l2).bind fun t355 => (some t355)) else (none)) else (none)) else (none))) else (none))) else (none)))) else (none))) = some r := H
        have A11 := Aside0.mk A110
        clear A110
        replace H := Option.bind_eq_some_iff.mp H
        obtain ⟨t333, A120, H⟩ := H
        replace H : (if t333 = true then ((log_Common.f kj3 (([l0, l1] : List (List ByteArray)))).bind fun t337 => ((log_Common.f kj3 (([l0, l2] : List (List ByteArray)))).bind fun t341 => (if t332 = (mn t337 t341) then ((log_Common.f kj3 (([l2, l0, l1] : List (List ByteArray)))).bind fun t345 => (if t332 = t345 then ((log_Common.f kj3 (([l1, l2, l0, l1] : List (List ByteArray)))).bind fun t349 => (if t332 = t349 then (if 0 ≤ (mn t332 (l0.length : Int)) then (if (mn t332 (l0.length : Int)) ≤ (l0.length : Int) then ((log_Front.f kj3 (l0.take ((mn t332 (l0.length : Int)) : Int).toNat) l2).bind fun t355 => (some t355)) else (none)) else (none)) else (none))) else (none))) else (none)))) else (none)) = some r := H
        have A12 := Aside0.mk A120
        clear A120
        by_cases c13 : t333 = true
        · subst c13
          have H1 : ((log_Common.f kj3 (([l0, l1] : List (List ByteArray)))).bind fun t337 => ((log_Common.f kj3 (([l0, l2] : List (List ByteArray)))).bind fun t341 => (if t332 = (mn t337 t341) then ((log_Common.f kj3 (([l2, l0, l1] : List (List ByteArray)))).bind fun t345 => (if t332 = t345 then ((log_Common.f kj3 (([l1, l2, l0, l1] : List (List ByteArray)))).bind fun t349 => (if t332 = t349 then (if 0 ≤ (mn t332 (l0.length : Int)) then (if (mn t332 (l0.length : Int)) ≤ (l0.length : Int) then ((log_Front.f kj3 (l0.take ((mn t332 (l0.length : Int)) : Int).toNat) l2).bind fun t355 => (some t355)) else (none)) else (none)) else (none))) else (none))) else (none)))) = some r := by rw [if_pos rfl] at H; exact H
          clear H
          have H := H1
          clear H1
          obtain ⟨y334, hy334⟩ : ∃ y_ : List (List ByteArray), y_ = (([l0, l1] : List (List ByteArray))) := ⟨_, rfl⟩
          replace H : ((log_Common.f kj3 y334).bind fun t337 => ((log_Common.f kj3 (([l0, l2] : List (List ByteArray)))).bind fun t341 => (if t332 = (mn t337 t341) then ((log_Common.f kj3 (([l2, l0, l1] : List (List ByteArray)))).bind fun t345 => (if t332 = t345 then ((log_Common.f kj3 (([l1, l2, l0, l1] : List (List ByteArray)))).bind fun t349 => (if t332 = t349 then (if 0 ≤ (mn t332 (l0.length : Int)) then (if (mn t332 (l0.length : Int)) ≤ (l0.length : Int) then ((log_Front.f kj3 (l0.take ((mn t332 (l0.length : Int)) : Int).toNat) l2).bind fun t355 => (some t355)) else (none)) else (none)) else (none))) else (none))) else (none)))) = some r := by first | (rw [hy334]; with_reducible exact H) | (have H2_ := (Option.bind_some _ _).symm.trans H; rw [hy334]; with_reducible exact H2_) | (have H2_ := (Option.bind_some _ _).symm.trans H; with_reducible exact H2_) | with_reducible exact H | (rw [hy334]; exact H) | exact H
          have Ny334 := Aside0.mk hy334
          clear hy334
          replace H := Option.bind_eq_some_iff.mp H
          obtain ⟨t337, A140, H⟩ := H
          replace H : ((log_Common.f kj3 (([l0, l2] : List (List ByteArray)))).bind fun t341 => (if t332 = (mn t337 t341) then ((log_Common.f kj3 (([l2, l0, l1] : List (List ByteArray)))).bind fun t345 => (if t332 = t345 then ((log_Common.f kj3 (([l1, l2, l0, l1] : List (List ByteArray)))).bind fun t349 => (if t332 = t349 then (if 0 ≤ (mn t332 (l0.length : Int)) then (if (mn t332 (l0.length : Int)) ≤ (l0.length : Int) then ((log_Front.f kj3 (l0.take ((mn t332 (l0.length : Int)) : Int).toNat) l2).bind fun t355 => (some t355)) else (none)) else (none)) else (none))) else (none))) else (none))) = some r := H
          have A14 := Aside0.mk A140
          clear A140
          obtain ⟨y338, hy338⟩ : ∃ y_ : List (List ByteArray), y_ = (([l0, l2] : List (List ByteArray))) := ⟨_, rfl⟩
          replace H : ((log_Common.f kj3 y338).bind fun t341 => (if t332 = (mn t337 t341) then ((log_Common.f kj3 (([l2, l0, l1] : List (List ByteArray)))).bind fun t345 => (if t332 = t345 then ((log_Common.f kj3 (([l1, l2, l0, l1] : List (List ByteArray)))).bind fun t349 => (if t332 = t349 then (if 0 ≤ (mn t332 (l0.length : Int)) then (if (mn t332 (l0.length : Int)) ≤ (l0.length : Int) then ((log_Front.f kj3 (l0.take ((mn t332 (l0.length : Int)) : Int).toNat) l2).bind fun t355 => (some t355)) else (none)) else (none)) else (none))) else (none))) else (none))) = some r := by first | (rw [hy338]; with_reducible exact H) | (have H2_ := (Option.bind_some _ _).symm.trans H; rw [hy338]; with_reducible exact H2_) | (have H2_ := (Option.bind_some _ _).symm.trans H; with_reducible exact H2_) | with_reducible exact H | (rw [hy338]; exact H) | exact H
          have Ny338 := Aside0.mk hy338
          clear hy338
          replace H := Option.bind_eq_some_iff.mp H
          obtain ⟨t341, A150, H⟩ := H
          replace H : (if t332 = (mn t337 t341) then ((log_Common.f kj3 (([l2, l0, l1] : List (List ByteArray)))).bind fun t345 => (if t332 = t345 then ((log_Common.f kj3 (([l1, l2, l0, l1] : List (List ByteArray)))).bind fun t349 => (if t332 = t349 then (if 0 ≤ (mn t332 (l0.length : Int)) then (if (mn t332 (l0.length : Int)) ≤ (l0.length : Int) then ((log_Front.f kj3 (l0.take ((mn t332 (l0.length : Int)) : Int).toNat) l2).bind fun t355 => (some t355)) else (none)) else (none)) else (none))) else (none))) else (none)) = some r := H
          have A15 := Aside0.mk A150
          clear A150
          obtain ⟨ji16, hji16⟩ : ∃ j_ : Int, (mn t337 t341) = j_ := ⟨_, rfl⟩
          replace H : (if t332 = (ji16) then ((log_Common.f kj3 (([l2, l0, l1] : List (List ByteArray)))).bind fun t345 => (if t332 = t345 then ((log_Common.f kj3 (([l1, l2, l0, l1] : List (List ByteArray)))).bind fun t349 => (if t332 = t349 then (if 0 ≤ (mn t332 (l0.length : Int)) then (if (mn t332 (l0.length : Int)) ≤ (l0.length : Int) then ((log_Front.f kj3 (l0.take ((mn t332 (l0.length : Int)) : Int).toNat) l2).bind fun t355 => (some t355)) else (none)) else (none)) else (none))) else (none))) else (none)) = some r := by first | (rw [hji16] at H; exact H) | (simp only [hji16] at H ⊢; exact H)
          (try rw [hji16] at A11)
          (try rw [hji16] at A12)
          (try rw [hji16] at A14)
          (try rw [hji16] at A15)
          have hji16_ : (if t341 < t337 then t341 else t337) = ji16 := hji16
          by_cases c17 : t332 = (ji16)
          · rw [if_pos c17] at H
            have c17b0 : (t332 == (ji16)) = true := beq_iff_eq.mpr c17
            have c17b1 : (t332 != (ji16)) = false := bne_eq_false_iff_eq.mpr c17
            clear c17
            obtain ⟨y342, hy342⟩ : ∃ y_ : List (List ByteArray), y_ = (([l2, l0, l1] : List (List ByteArray))) := ⟨_, rfl⟩
            replace H : ((log_Common.f kj3 y342).bind fun t345 => (if t332 = t345 then ((log_Common.f kj3 (([l1, l2, l0, l1] : List (List ByteArray)))).bind fun t349 => (if t332 = t349 then (if 0 ≤ (mn t332 (l0.length : Int)) then (if (mn t332 (l0.length : Int)) ≤ (l0.length : Int) then ((log_Front.f kj3 (l0.take ((mn t332 (l0.length : Int)) : Int).toNat) l2).bind fun t355 => (some t355)) else (none)) else (none)) else (none))) else (none))) = some r := by first | (rw [hy342]; with_reducible exact H) | (have H2_ := (Option.bind_some _ _).symm.trans H; rw [hy342]; with_reducible exact H2_) | (have H2_ := (Option.bind_some _ _).symm.trans H; with_reducible exact H2_) | with_reducible exact H | (rw [hy342]; exact H) | exact H
            have Ny342 := Aside0.mk hy342
            clear hy342
            replace H := Option.bind_eq_some_iff.mp H
            obtain ⟨t345, A180, H⟩ := H
            replace H : (if t332 = t345 then ((log_Common.f kj3 (([l1, l2, l0, l1] : List (List ByteArray)))).bind fun t349 => (if t332 = t349 then (if 0 ≤ (mn t332 (l0.length : Int)) then (if (mn t332 (l0.length : Int)) ≤ (l0.length : Int) then ((log_Front.f kj3 (l0.take ((mn t332 (l0.length : Int)) : Int).toNat) l2).bind fun t355 => (some t355)) else (none)) else (none)) else (none))) else (none)) = some r := H
            have A18 := Aside0.mk A180
            clear A180
            by_cases c19 : t332 = t345
            · rw [if_pos c19] at H
              have c19b0 : (t332 == t345) = true := beq_iff_eq.mpr c19
              have c19b1 : (t332 != t345) = false := bne_eq_false_iff_eq.mpr c19
              clear c19
              obtain ⟨y346, hy346⟩ : ∃ y_ : List (List ByteArray), y_ = (([l1, l2, l0, l1] : List (List ByteArray))) := ⟨_, rfl⟩
              replace H : ((log_Common.f kj3 y346).bind fun t349 => (if t332 = t349 then (if 0 ≤ (mn t332 (l0.length : Int)) then (if (mn t332 (l0.length : Int)) ≤ (l0.length : Int) then ((log_Front.f kj3 (l0.take ((mn t332 (l0.length : Int)) : Int).toNat) l2).bind fun t355 => (some t355)) else (none)) else (none)) else (none))) = some r := by first | (rw [hy346]; with_reducible exact H) | (have H2_ := (Option.bind_some _ _).symm.trans H; rw [hy346]; with_reducible exact H2_) | (have H2_ := (Option.bind_some _ _).symm.trans H; with_reducible exact H2_) | with_reducible exact H | (rw [hy346]; exact H) | exact H
              have Ny346 := Aside0.mk hy346
              clear hy346
              replace H := Option.bind_eq_some_iff.mp H
              obtain ⟨t349, A200, H⟩ := H
              replace H : (if t332 = t349 then (if 0 ≤ (mn t332 (l0.length : Int)) then (if (mn t332 (l0.length : Int)) ≤ (l0.length : Int) then ((log_Front.f kj3 (l0.take ((mn t332 (l0.length : Int)) : Int).toNat) l2).bind fun t355 => (some t355)) else (none)) else (none)) else (none)) = some r := H
              have A20 := Aside0.mk A200
              clear A200
              by_cases c21 : t332 = t349
              · rw [if_pos c21] at H
                have c21b0 : (t332 == t349) = true := beq_iff_eq.mpr c21
                have c21b1 : (t332 != t349) = false := bne_eq_false_iff_eq.mpr c21
                clear c21
                obtain ⟨ji22, hji22⟩ : ∃ j_ : Int, (mn t332 (l0.length : Int)) = j_ := ⟨_, rfl⟩
                replace H : (if 0 ≤ (ji22) then (if (ji22) ≤ (l0.length : Int) then ((log_Front.f kj3 (l0.take ((ji22) : Int).toNat) l2).bind fun t355 => (some t355)) else (none)) else (none)) = some r := by first | (rw [hji22] at H; exact H) | (simp only [hji22] at H ⊢; exact H)
                (try rw [hji22] at A11)
                (try rw [hji22] at A12)
                (try rw [hji22] at A14)
                (try rw [hji22] at A15)
                (try rw [hji22] at A18)
                (try rw [hji22] at A20)
                have hji22_ : (if (l0.length : Int) < t332 then (l0.length : Int) else t332) = ji22 := hji22
                by_cases c23 : 0 ≤ (ji22)
                · rw [if_pos c23] at H
                  have c23b0 := eq_true c23
                  have c23b1 : decide (0 ≤ (ji22)) = true := decide_eq_true c23
                  clear c23
                  by_cases c24 : (ji22) ≤ (l0.length : Int)
                  · rw [if_pos c24] at H
                    have c24b0 := eq_true c24
                    have c24b1 : decide ((ji22) ≤ (l0.length : Int)) = true := decide_eq_true c24
                    clear c24
                    obtain ⟨y350, hy350⟩ : ∃ y_ : List ByteArray, y_ = (l0.take ((ji22) : Int).toNat) := ⟨_, rfl⟩
                    replace H : ((log_Front.f kj3 y350 l2).bind fun t355 => (some t355)) = some r := by first | (rw [hy350]; with_reducible exact H) | (have H2_ := (Option.bind_some _ _).symm.trans H; rw [hy350]; with_reducible exact H2_) | (have H2_ := (Option.bind_some _ _).symm.trans H; with_reducible exact H2_) | with_reducible exact H | (rw [hy350]; exact H) | exact H
                    have Ny350 := Aside0.mk hy350
                    clear hy350
                    replace H := Option.bind_eq_some_iff.mp H
                    obtain ⟨t355, A250, H⟩ := H
                    replace H : (some t355) = some r := H
                    have A25 := Aside0.mk A250
                    clear A250
                    obtain rfl := Option.some.inj H
                    go_wp2_with (first | ((with_reducible refine gate_dst (N := 21) rfl ?_); (try (refine gate_guard (by rfl) ?_; dsimp only)); refine Kd.N_lit (Kd.slice 9 Kd.string) _ 22 ?hg (N' := 21) ?hd (xs := ([l0, l1, l2] : List (List ByteArray))) (inner := [.slice A0 l0.length c0, .slice A1 l1.length c1, .slice A2 l2.length c2]) (ok := (fun k_ => ((P0_ k_ ∨ P1_ k_ ∨ P2_ k_) ∨ w.heap.size ≤ k_))) (okp := (fun k_ => ((P0_ k_ ∨ P1_ k_ ∨ P2_ k_) ∨ w.heap.size ≤ k_))) ?hr ?hp (fun _ hk => hk) ((show ∀ k_, wc.heap.size ≤ k_ → (fun k_ => ((P0_ k_ ∨ P1_ k_ ∨ P2_ k_) ∨ w.heap.size ≤ k_)) k_ from fun k_ hk => (.inr (Nat.le_trans (below_size (by repeat (first | (with_reducible first | exact HB.out | apply below_alloc | apply pw_below_drewN | apply below_drew1) | exact HB.out))) hk))) _ (Nat.le_refl _)) (Below.refl _ _) (Nat.le_refl _) (by simp) ?_; (case hd => rfl); (case hg => rfl); (case hr => first | (go_simp; done) | (go_simp; rfl)); (case hp => exact (Reps.one (show Kd.FK (Kd.slice 9 Kd.string) _ _ l0 [.slice A0 l0.length c0] from (Kd.FK_slice_mk (Kd.V_reads' (Kd.V_mono (ok' := (fun k_ => ((P0_ k_ ∨ P1_ k_ ∨ P2_ k_) ∨ w.heap.size ≤ k_))) (HO_0.out) (fun k_ hk => hk))).2.1 (Kd.V_F (Kd.V_mono (ok' := (fun k_ => ((P0_ k_ ∨ P1_ k_ ∨ P2_ k_) ∨ w.heap.size ≤ k_))) (HO_0.out) (fun k_ hk => hk))))) (Reps.one (show Kd.FK (Kd.slice 9 Kd.string) _ _ l1 [.slice A1 l1.length c1] from (Kd.FK_slice_mk (Kd.V_reads' (Kd.V_mono (ok' := (fun k_ => ((P0_ k_ ∨ P1_ k_ ∨ P2_ k_) ∨ w.heap.size ≤ k_))) (HO_1.out) (fun k_ hk => hk))).2.1 (Kd.V_F (Kd.V_mono (ok' := (fun k_ => ((P0_ k_ ∨ P1_ k_ ∨ P2_ k_) ∨ w.heap.size ≤ k_))) (HO_1.out) (fun k_ hk => hk))))) (Reps.one (show Kd.FK (Kd.slice 9 Kd.string) _ _ l2 [.slice A2 l2.length c2] from (Kd.FK_slice_mk (Kd.V_reads' (Kd.V_mono (ok' := (fun k_ => ((P0_ k_ ∨ P1_ k_ ∨ P2_ k_) ∨ w.heap.size ≤ k_))) (HO_2.out) (fun k_ hk => hk))).2.1 (Kd.V_F (Kd.V_mono (ok' := (fun k_ => ((P0_ k_ ∨ P1_ k_ ∨ P2_ k_) ∨ w.heap.size ≤ k_))) (HO_2.out) (fun k_ hk => hk))))) (Reps.none _ _))))); intro v330 w26 ho27 hb hg_ hnew_; clear hg_ hnew_; (first | rw [← Ny329.out] at ho27 | (simp only [Int.reduceToNat] at ho27; rw [← Ny329.out] at ho27)); have n0_ := Aside0.mk (Kd.V_elder' (by (with_reducible repeat (first | apply Kd.V_alloc | apply Kd.V_drewN | apply Kd.V_drew)); exact HO_0.out) (Kd.N_base ho27) hb); have n1_ := Aside0.mk (Kd.V_elder' (by (with_reducible repeat (first | apply Kd.V_alloc | apply Kd.V_drewN | apply Kd.V_drew)); exact HO_1.out) (Kd.N_base ho27) hb); have n2_ := Aside0.mk (Kd.V_elder' (by (with_reducible repeat (first | apply Kd.V_alloc | apply Kd.V_drewN | apply Kd.V_drew)); exact HO_2.out) (Kd.N_base ho27) hb); have n3_ := Aside0.mk (Kd.N_lower ho27 (below_size (by repeat (first | (with_reducible first | exact HB.out | apply below_alloc | apply pw_below_drewN | apply below_drew1) | exact HB.out)))); have n4_ := Aside0.mk (below_step (by repeat (first | (with_reducible first | exact HB.out | apply below_alloc | apply pw_below_drewN | apply below_drew1) | exact HB.out)) hb); clear HO_0; clear HO_1; clear HO_2; clear HB; have HO_0 := n0_; have HO_1 := n1_; have HO_2 := n2_; have HO331 := n3_; have HB := n4_; clear n0_ n1_ n2_ n3_ n4_; clear hb ho27; obtain ⟨Ao28, co28, eo28⟩ := Kd.N_slice HO331.out; subst eo28) | ((with_reducible refine gate_callee (f := 9) rfl ?_); refine goesL_ (some 22) rfl rfl Try.func9 (by kernel_rfl) rfl #[.slice Ao28 y329.length co28] rfl (by (try simp only [List.map_toArray, List.map_cons, List.map_nil]); first | done | rfl | (simp only [List.length_drop, List.length_take]; rfl)) ?_; (with_reducible refine (log_Common.calls kj3 _ _ y329 t332 _ ?side1 ?side2 A11.out).mono ?_); (case side1 => repeat (first | exact (Kd.N_reads' HO331.out).2.2 | (with_reducible refine Kd.C_alloc ?_ _) | (with_reducible refine Kd.C_drewN ?_ _) | (with_reducible refine Kd.C_drew ?_))); (case side2 => exact (Kd.N_reads' HO331.out).2.1); (try clear A11); rintro e w29 ⟨rfl, hb⟩; refine ⟨_, rfl, ?_⟩; have n0_ := Aside0.mk (Kd.V_below (by (with_reducible repeat (first | apply Kd.V_alloc | apply Kd.V_drewN | apply Kd.V_drew)); exact HO_0.out) hb); have n1_ := Aside0.mk (Kd.V_below (by (with_reducible repeat (first | apply Kd.V_alloc | apply Kd.V_drewN | apply Kd.V_drew)); exact HO_1.out) hb); have n2_ := Aside0.mk (Kd.V_below (by (with_reducible repeat (first | apply Kd.V_alloc | apply Kd.V_drewN | apply Kd.V_drew)); exact HO_2.out) hb); have n3_ := Aside0.mk (Kd.N_below (by (with_reducible repeat (first | apply Kd.N_alloc | apply Kd.N_drewN | apply Kd.N_drew)); exact HO331.out) hb); have n4_ := Aside0.mk (below_step (by repeat (first | (with_reducible first | exact HB.out | apply below_alloc | apply pw_below_drewN | apply below_drew1) | exact HB.out)) hb); clear HO_0; clear HO_1; clear HO_2; clear HO331; clear HB; have HO_0 := n0_; have HO_1 := n1_; have HO_2 := n2_; have HO331 := n3_; have HB := n4_; clear n0_ n1_ n2_ n3_ n4_; (try clear hb); (try clear hb2); (try clear hk); (try clear hi)) | ((with_reducible refine gate_callee (f := 11) rfl ?_); refine goesL_ (some 23) rfl rfl Try.func11 (by kernel_rfl) rfl #[] rfl (by (try simp only [List.map_toArray, List.map_cons, List.map_nil]); first | done | rfl | (simp only [List.length_drop, List.length_take]; rfl)) ?_; (with_reducible refine (watchmanlaw23_joined.calls kj3  true _ A12.out).mono ?_); rintro e w30 ⟨rfl, hb⟩; refine ⟨_, rfl, ?_⟩; have n0_ := Aside0.mk (Kd.V_below (by (with_reducible repeat (first | apply Kd.V_alloc | apply Kd.V_drewN | apply Kd.V_drew)); exact HO_0.out) hb); have n1_ := Aside0.mk (Kd.V_below (by (with_reducible repeat (first | apply Kd.V_alloc | apply Kd.V_drewN | apply Kd.V_drew)); exact HO_1.out) hb); have n2_ := Aside0.mk (Kd.V_below (by (with_reducible repeat (first | apply Kd.V_alloc | apply Kd.V_drewN | apply Kd.V_drew)); exact HO_2.out) hb); have n3_ := Aside0.mk (Kd.N_below (by (with_reducible repeat (first | apply Kd.N_alloc | apply Kd.N_drewN | apply Kd.N_drew)); exact HO331.out) hb); have n4_ := Aside0.mk (below_step (by repeat (first | (with_reducible first | exact HB.out | apply below_alloc | apply pw_below_drewN | apply below_drew1) | exact HB.out)) hb); clear HO_0; clear HO_1; clear HO_2; clear HO331; clear HB; have HO_0 := n0_; have HO_1 := n1_; have HO_2 := n2_; have HO331 := n3_; have HB := n4_; clear n0_ n1_ n2_ n3_ n4_; (try clear hb); (try clear hb2); (try clear hk); (try clear hi)) | ((with_reducible refine gate_dst (N := 28) rfl ?_); (try (refine gate_guard (by rfl) ?_; dsimp only)); refine Kd.N_lit (Kd.slice 9 Kd.string) _ 22 ?hg (N' := 28) ?hd (xs := ([l0, l1] : List (List ByteArray))) (inner := [.slice A0 l0.length c0, .slice A1 l1.length c1]) (ok := (fun k_ => ((P0_ k_ ∨ P1_ k_ ∨ P2_ k_) ∨ w.heap.size ≤ k_) ∧ some k_ ≠ (.slice Ao28 y329.length co28 : Value).ownBlock)) (okp := (fun k_ => ((P0_ k_ ∨ P1_ k_ ∨ P2_ k_) ∨ w.heap.size ≤ k_) ∧ some k_ ≠ (.slice Ao28 y329.length co28 : Value).ownBlock)) ?hr ?hp (fun _ hk => hk) ((show ∀ k_, w30.heap.size ≤ k_ → (fun k_ => ((P0_ k_ ∨ P1_ k_ ∨ P2_ k_) ∨ w.heap.size ≤ k_) ∧ some k_ ≠ (.slice Ao28 y329.length co28 : Value).ownBlock) k_ from fun k_ hk => ⟨(.inr (Nat.le_trans (below_size (by repeat (first | (with_reducible first | exact HB.out | apply below_alloc | apply pw_below_drewN | apply below_drew1) | exact HB.out))) hk)), Kd.fresh' (Kd.N_lt (by (with_reducible repeat (first | apply Kd.N_alloc | apply Kd.N_drewN | apply Kd.N_drew)); exact HO331.out)) k_ hk⟩) _ (Nat.le_refl _)) (Below.refl _ _) (Nat.le_refl _) (by simp) ?_; (case hd => rfl); (case hg => rfl); (case hr => first | (go_simp; done) | (go_simp; rfl)); (case hp => exact (Reps.one (show Kd.FK (Kd.slice 9 Kd.string) _ _ l0 [.slice A0 l0.length c0] from (Kd.FK_slice_mk (Kd.V_reads' (Kd.V_mono (ok' := (fun k_ => ((P0_ k_ ∨ P1_ k_ ∨ P2_ k_) ∨ w.heap.size ≤ k_) ∧ some k_ ≠ (.slice Ao28 y329.length co28 : Value).ownBlock)) (HO_0.out) (fun k_ hk => ⟨hk.1, hk.2⟩))).2.1 (Kd.V_F (Kd.V_mono (ok' := (fun k_ => ((P0_ k_ ∨ P1_ k_ ∨ P2_ k_) ∨ w.heap.size ≤ k_) ∧ some k_ ≠ (.slice Ao28 y329.length co28 : Value).ownBlock)) (HO_0.out) (fun k_ hk => ⟨hk.1, hk.2⟩))))) (Reps.one (show Kd.FK (Kd.slice 9 Kd.string) _ _ l1 [.slice A1 l1.length c1] from (Kd.FK_slice_mk (Kd.V_reads' (Kd.V_mono (ok' := (fun k_ => ((P0_ k_ ∨ P1_ k_ ∨ P2_ k_) ∨ w.heap.size ≤ k_) ∧ some k_ ≠ (.slice Ao28 y329.length co28 : Value).ownBlock)) (HO_1.out) (fun k_ hk => ⟨hk.1, hk.2⟩))).2.1 (Kd.V_F (Kd.V_mono (ok' := (fun k_ => ((P0_ k_ ∨ P1_ k_ ∨ P2_ k_) ∨ w.heap.size ≤ k_) ∧ some k_ ≠ (.slice Ao28 y329.length co28 : Value).ownBlock)) (HO_1.out) (fun k_ hk => ⟨hk.1, hk.2⟩))))) (Reps.none _ _)))); intro v335 w31 ho32 hb hg_ hnew_; clear hg_ hnew_; (first | rw [← Ny334.out] at ho32 | (simp only [Int.reduceToNat] at ho32; rw [← Ny334.out] at ho32)); have n0_ := Aside0.mk (Kd.V_elder' (by (with_reducible repeat (first | apply Kd.V_alloc | apply Kd.V_drewN | apply Kd.V_drew)); exact HO_0.out) (Kd.N_base ho32) hb); have n1_ := Aside0.mk (Kd.V_elder' (by (with_reducible repeat (first | apply Kd.V_alloc | apply Kd.V_drewN | apply Kd.V_drew)); exact HO_1.out) (Kd.N_base ho32) hb); have n2_ := Aside0.mk (Kd.V_elder' (by (with_reducible repeat (first | apply Kd.V_alloc | apply Kd.V_drewN | apply Kd.V_drew)); exact HO_2.out) (Kd.N_base ho32) hb); have n3_ := Aside0.mk (Kd.N_elder' (by (with_reducible repeat (first | apply Kd.N_alloc | apply Kd.N_drewN | apply Kd.N_drew)); exact HO331.out) (Kd.N_base ho32) hb); have n4_ := Aside0.mk (Kd.N_lower ho32 (below_size (by repeat (first | (with_reducible first | exact HB.out | apply below_alloc | apply pw_below_drewN | apply below_drew1) | exact HB.out)))); have n5_ := Aside0.mk (below_step (by repeat (first | (with_reducible first | exact HB.out | apply below_alloc | apply pw_below_drewN | apply below_drew1) | exact HB.out)) hb); clear HO_0; clear HO_1; clear HO_2; clear HO331; clear HB; have HO_0 := n0_; have HO_1 := n1_; have HO_2 := n2_; have HO331 := n3_; have HO336 := n4_; have HB := n5_; clear n0_ n1_ n2_ n3_ n4_ n5_; clear hb ho32; obtain ⟨Ao33, co33, eo33⟩ := Kd.N_slice HO336.out; subst eo33) | (go_at_call 9; (with_reducible refine (log_Common.calls kj3 _ _ y334 t337 _ ?side1 ?side2 A14.out).mono ?_); (case side1 => repeat (first | exact (Kd.N_reads' HO336.out).2.2 | (with_reducible refine Kd.C_alloc ?_ _) | (with_reducible refine Kd.C_drewN ?_ _) | (with_reducible refine Kd.C_drew ?_))); (case side2 => exact (Kd.N_reads' HO336.out).2.1); (try clear A14); rintro e w34 ⟨rfl, hb⟩; have n0_ := Aside0.mk (Kd.V_below (by (with_reducible repeat (first | apply Kd.V_alloc | apply Kd.V_drewN | apply Kd.V_drew)); exact HO_0.out) hb); have n1_ := Aside0.mk (Kd.V_below (by (with_reducible repeat (first | apply Kd.V_alloc | apply Kd.V_drewN | apply Kd.V_drew)); exact HO_1.out) hb); have n2_ := Aside0.mk (Kd.V_below (by (with_reducible repeat (first | apply Kd.V_alloc | apply Kd.V_drewN | apply Kd.V_drew)); exact HO_2.out) hb); have n3_ := Aside0.mk (Kd.N_below (by (with_reducible repeat (first | apply Kd.N_alloc | apply Kd.N_drewN | apply Kd.N_drew)); exact HO331.out) hb); have n4_ := Aside0.mk (Kd.N_below (by (with_reducible repeat (first | apply Kd.N_alloc | apply Kd.N_drewN | apply Kd.N_drew)); exact HO336.out) hb); have n5_ := Aside0.mk (below_step (by repeat (first | (with_reducible first | exact HB.out | apply below_alloc | apply pw_below_drewN | apply below_drew1) | exact HB.out)) hb); clear HO_0; clear HO_1; clear HO_2; clear HO331; clear HO336; clear HB; have HO_0 := n0_; have HO_1 := n1_; have HO_2 := n2_; have HO331 := n3_; have HO336 := n4_; have HB := n5_; clear n0_ n1_ n2_ n3_ n4_ n5_; (try clear hb); (try clear hb2); (try clear hk); (try clear hi)) | ((with_reducible refine gate_dst (N := 32) rfl ?_); (try (refine gate_guard (by rfl) ?_; dsimp only)); refine Kd.N_lit (Kd.slice 9 Kd.string) _ 22 ?hg (N' := 32) ?hd (xs := ([l0, l2] : List (List ByteArray))) (inner := [.slice A0 l0.length c0, .slice A2 l2.length c2]) (ok := (fun k_ => ((P0_ k_ ∨ P1_ k_ ∨ P2_ k_) ∨ w.heap.size ≤ k_) ∧ some k_ ≠ (.slice Ao28 y329.length co28 : Value).ownBlock ∧ some k_ ≠ (.slice Ao33 y334.length co33 : Value).ownBlock)) (okp := (fun k_ => ((P0_ k_ ∨ P1_ k_ ∨ P2_ k_) ∨ w.heap.size ≤ k_) ∧ some k_ ≠ (.slice Ao28 y329.length co28 : Value).ownBlock ∧ some k_ ≠ (.slice Ao33 y334.length co33 : Value).ownBlock)) ?hr ?hp (fun _ hk => hk) ((show ∀ k_, w34.heap.size ≤ k_ → (fun k_ => ((P0_ k_ ∨ P1_ k_ ∨ P2_ k_) ∨ w.heap.size ≤ k_) ∧ some k_ ≠ (.slice Ao28 y329.length co28 : Value).ownBlock ∧ some k_ ≠ (.slice Ao33 y334.length co33 : Value).ownBlock) k_ from fun k_ hk => ⟨(.inr (Nat.le_trans (below_size (by repeat (first | (with_reducible first | exact HB.out | apply below_alloc | apply pw_below_drewN | apply below_drew1) | exact HB.out))) hk)), Kd.fresh' (Kd.N_lt (by (with_reducible repeat (first | apply Kd.N_alloc | apply Kd.N_drewN | apply Kd.N_drew)); exact HO331.out)) k_ hk, Kd.fresh' (Kd.N_lt (by (with_reducible repeat (first | apply Kd.N_alloc | apply Kd.N_drewN | apply Kd.N_drew)); exact HO336.out)) k_ hk⟩) _ (Nat.le_refl _)) (Below.refl _ _) (Nat.le_refl _) (by simp) ?_; (case hd => rfl); (case hg => rfl); (case hr => first | (go_simp; done) | (go_simp; rfl)); (case hp => exact (Reps.one (show Kd.FK (Kd.slice 9 Kd.string) _ _ l0 [.slice A0 l0.length c0] from (Kd.FK_slice_mk (Kd.V_reads' (Kd.V_mono (ok' := (fun k_ => ((P0_ k_ ∨ P1_ k_ ∨ P2_ k_) ∨ w.heap.size ≤ k_) ∧ some k_ ≠ (.slice Ao28 y329.length co28 : Value).ownBlock ∧ some k_ ≠ (.slice Ao33 y334.length co33 : Value).ownBlock)) (HO_0.out) (fun k_ hk => ⟨hk.1.1, ⟨hk.1.2, hk.2⟩⟩))).2.1 (Kd.V_F (Kd.V_mono (ok' := (fun k_ => ((P0_ k_ ∨ P1_ k_ ∨ P2_ k_) ∨ w.heap.size ≤ k_) ∧ some k_ ≠ (.slice Ao28 y329.length co28 : Value).ownBlock ∧ some k_ ≠ (.slice Ao33 y334.length co33 : Value).ownBlock)) (HO_0.out) (fun k_ hk => ⟨hk.1.1, ⟨hk.1.2, hk.2⟩⟩))))) (Reps.one (show Kd.FK (Kd.slice 9 Kd.string) _ _ l2 [.slice A2 l2.length c2] from (Kd.FK_slice_mk (Kd.V_reads' (Kd.V_mono (ok' := (fun k_ => ((P0_ k_ ∨ P1_ k_ ∨ P2_ k_) ∨ w.heap.size ≤ k_) ∧ some k_ ≠ (.slice Ao28 y329.length co28 : Value).ownBlock ∧ some k_ ≠ (.slice Ao33 y334.length co33 : Value).ownBlock)) (HO_2.out) (fun k_ hk => ⟨hk.1.1, ⟨hk.1.2, hk.2⟩⟩))).2.1 (Kd.V_F (Kd.V_mono (ok' := (fun k_ => ((P0_ k_ ∨ P1_ k_ ∨ P2_ k_) ∨ w.heap.size ≤ k_) ∧ some k_ ≠ (.slice Ao28 y329.length co28 : Value).ownBlock ∧ some k_ ≠ (.slice Ao33 y334.length co33 : Value).ownBlock)) (HO_2.out) (fun k_ hk => ⟨hk.1.1, ⟨hk.1.2, hk.2⟩⟩))))) (Reps.none _ _)))); intro v339 w35 ho36 hb hg_ hnew_; clear hg_ hnew_; (first | rw [← Ny338.out] at ho36 | (simp only [Int.reduceToNat] at ho36; rw [← Ny338.out] at ho36)); have n0_ := Aside0.mk (Kd.V_elder' (by (with_reducible repeat (first | apply Kd.V_alloc | apply Kd.V_drewN | apply Kd.V_drew)); exact HO_0.out) (Kd.N_base ho36) hb); have n1_ := Aside0.mk (Kd.V_elder' (by (with_reducible repeat (first | apply Kd.V_alloc | apply Kd.V_drewN | apply Kd.V_drew)); exact HO_1.out) (Kd.N_base ho36) hb); have n2_ := Aside0.mk (Kd.V_elder' (by (with_reducible repeat (first | apply Kd.V_alloc | apply Kd.V_drewN | apply Kd.V_drew)); exact HO_2.out) (Kd.N_base ho36) hb); have n3_ := Aside0.mk (Kd.N_elder' (by (with_reducible repeat (first | apply Kd.N_alloc | apply Kd.N_drewN | apply Kd.N_drew)); exact HO331.out) (Kd.N_base ho36) hb); have n4_ := Aside0.mk (Kd.N_elder' (by (with_reducible repeat (first | apply Kd.N_alloc | apply Kd.N_drewN | apply Kd.N_drew)); exact HO336.out) (Kd.N_base ho36) hb); have n5_ := Aside0.mk (Kd.N_lower ho36 (below_size (by repeat (first | (with_reducible first | exact HB.out | apply below_alloc | apply pw_below_drewN | apply below_drew1) | exact HB.out)))); have n6_ := Aside0.mk (below_step (by repeat (first | (with_reducible first | exact HB.out | apply below_alloc | apply pw_below_drewN | apply below_drew1) | exact HB.out)) hb); clear HO_0; clear HO_1; clear HO_2; clear HO331; clear HO336; clear HB; have HO_0 := n0_; have HO_1 := n1_; have HO_2 := n2_; have HO331 := n3_; have HO336 := n4_; have HO340 := n5_; have HB := n6_; clear n0_ n1_ n2_ n3_ n4_ n5_ n6_; clear hb ho36; obtain ⟨Ao37, co37, eo37⟩ := Kd.N_slice HO340.out; subst eo37) | (go_at_call 9; (with_reducible refine (log_Common.calls kj3 _ _ y338 t341 _ ?side1 ?side2 A15.out).mono ?_); (case side1 => repeat (first | exact (Kd.N_reads' HO340.out).2.2 | (with_reducible refine Kd.C_alloc ?_ _) | (with_reducible refine Kd.C_drewN ?_ _) | (with_reducible refine Kd.C_drew ?_))); (case side2 => exact (Kd.N_reads' HO340.out).2.1); (try clear A15); rintro e w38 ⟨rfl, hb⟩; have n0_ := Aside0.mk (Kd.V_below (by (with_reducible repeat (first | apply Kd.V_alloc | apply Kd.V_drewN | apply Kd.V_drew)); exact HO_0.out) hb); have n1_ := Aside0.mk (Kd.V_below (by (with_reducible repeat (first | apply Kd.V_alloc | apply Kd.V_drewN | apply Kd.V_drew)); exact HO_1.out) hb); have n2_ := Aside0.mk (Kd.V_below (by (with_reducible repeat (first | apply Kd.V_alloc | apply Kd.V_drewN | apply Kd.V_drew)); exact HO_2.out) hb); have n3_ := Aside0.mk (Kd.N_below (by (with_reducible repeat (first | apply Kd.N_alloc | apply Kd.N_drewN | apply Kd.N_drew)); exact HO331.out) hb); have n4_ := Aside0.mk (Kd.N_below (by (with_reducible repeat (first | apply Kd.N_alloc | apply Kd.N_drewN | apply Kd.N_drew)); exact HO336.out) hb); have n5_ := Aside0.mk (Kd.N_below (by (with_reducible repeat (first | apply Kd.N_alloc | apply Kd.N_drewN | apply Kd.N_drew)); exact HO340.out) hb); have n6_ := Aside0.mk (below_step (by repeat (first | (with_reducible first | exact HB.out | apply below_alloc | apply pw_below_drewN | apply below_drew1) | exact HB.out)) hb); clear HO_0; clear HO_1; clear HO_2; clear HO331; clear HO336; clear HO340; clear HB; have HO_0 := n0_; have HO_1 := n1_; have HO_2 := n2_; have HO331 := n3_; have HO336 := n4_; have HO340 := n5_; have HB := n6_; clear n0_ n1_ n2_ n3_ n4_ n5_ n6_; (try clear hb); (try clear hb2); (try clear hk); (try clear hi)) | ((with_reducible refine gate_dst (N := 42) rfl ?_); (try (refine gate_guard (by rfl) ?_; dsimp only)); refine Kd.N_lit (Kd.slice 9 Kd.string) _ 22 ?hg (N' := 42) ?hd (xs := ([l2, l0, l1] : List (List ByteArray))) (inner := [.slice A2 l2.length c2, .slice A0 l0.length c0, .slice A1 l1.length c1]) (ok := (fun k_ => ((P0_ k_ ∨ P1_ k_ ∨ P2_ k_) ∨ w.heap.size ≤ k_) ∧ some k_ ≠ (.slice Ao28 y329.length co28 : Value).ownBlock ∧ some k_ ≠ (.slice Ao33 y334.length co33 : Value).ownBlock ∧ some k_ ≠ (.slice Ao37 y338.length co37 : Value).ownBlock)) (okp := (fun k_ => ((P0_ k_ ∨ P1_ k_ ∨ P2_ k_) ∨ w.heap.size ≤ k_) ∧ some k_ ≠ (.slice Ao28 y329.length co28 : Value).ownBlock ∧ some k_ ≠ (.slice Ao33 y334.length co33 : Value).ownBlock ∧ some k_ ≠ (.slice Ao37 y338.length co37 : Value).ownBlock)) ?hr ?hp (fun _ hk => hk) ((show ∀ k_, w38.heap.size ≤ k_ → (fun k_ => ((P0_ k_ ∨ P1_ k_ ∨ P2_ k_) ∨ w.heap.size ≤ k_) ∧ some k_ ≠ (.slice Ao28 y329.length co28 : Value).ownBlock ∧ some k_ ≠ (.slice Ao33 y334.length co33 : Value).ownBlock ∧ some k_ ≠ (.slice Ao37 y338.length co37 : Value).ownBlock) k_ from fun k_ hk => ⟨(.inr (Nat.le_trans (below_size (by repeat (first | (with_reducible first | exact HB.out | apply below_alloc | apply pw_below_drewN | apply below_drew1) | exact HB.out))) hk)), Kd.fresh' (Kd.N_lt (by (with_reducible repeat (first | apply Kd.N_alloc | apply Kd.N_drewN | apply Kd.N_drew)); exact HO331.out)) k_ hk, Kd.fresh' (Kd.N_lt (by (with_reducible repeat (first | apply Kd.N_alloc | apply Kd.N_drewN | apply Kd.N_drew)); exact HO336.out)) k_ hk, Kd.fresh' (Kd.N_lt (by (with_reducible repeat (first | apply Kd.N_alloc | apply Kd.N_drewN | apply Kd.N_drew)); exact HO340.out)) k_ hk⟩) _ (Nat.le_refl _)) (Below.refl _ _) (Nat.le_refl _) (by simp) ?_; (case hd => rfl); (case hg => rfl); (case hr => first | (go_simp; done) | (go_simp; rfl)); (case hp => exact (Reps.one (show Kd.FK (Kd.slice 9 Kd.string) _ _ l2 [.slice A2 l2.length c2] from (Kd.FK_slice_mk (Kd.V_reads' (Kd.V_mono (ok' := (fun k_ => ((P0_ k_ ∨ P1_ k_ ∨ P2_ k_) ∨ w.heap.size ≤ k_) ∧ some k_ ≠ (.slice Ao28 y329.length co28 : Value).ownBlock ∧ some k_ ≠ (.slice Ao33 y334.length co33 : Value).ownBlock ∧ some k_ ≠ (.slice Ao37 y338.length co37 : Value).ownBlock)) (HO_2.out) (fun k_ hk => ⟨hk.1.1.1, ⟨hk.1.1.2, ⟨hk.1.2, hk.2⟩⟩⟩))).2.1 (Kd.V_F (Kd.V_mono (ok' := (fun k_ => ((P0_ k_ ∨ P1_ k_ ∨ P2_ k_) ∨ w.heap.size ≤ k_) ∧ some k_ ≠ (.slice Ao28 y329.length co28 : Value).ownBlock ∧ some k_ ≠ (.slice Ao33 y334.length co33 : Value).ownBlock ∧ some k_ ≠ (.slice Ao37 y338.length co37 : Value).ownBlock)) (HO_2.out) (fun k_ hk => ⟨hk.1.1.1, ⟨hk.1.1.2, ⟨hk.1.2, hk.2⟩⟩⟩))))) (Reps.one (show Kd.FK (Kd.slice 9 Kd.string) _ _ l0 [.slice A0 l0.length c0] from (Kd.FK_slice_mk (Kd.V_reads' (Kd.V_mono (ok' := (fun k_ => ((P0_ k_ ∨ P1_ k_ ∨ P2_ k_) ∨ w.heap.size ≤ k_) ∧ some k_ ≠ (.slice Ao28 y329.length co28 : Value).ownBlock ∧ some k_ ≠ (.slice Ao33 y334.length co33 : Value).ownBlock ∧ some k_ ≠ (.slice Ao37 y338.length co37 : Value).ownBlock)) (HO_0.out) (fun k_ hk => ⟨hk.1.1.1, ⟨hk.1.1.2, ⟨hk.1.2, hk.2⟩⟩⟩))).2.1 (Kd.V_F (Kd.V_mono (ok' := (fun k_ => ((P0_ k_ ∨ P1_ k_ ∨ P2_ k_) ∨ w.heap.size ≤ k_) ∧ some k_ ≠ (.slice Ao28 y329.length co28 : Value).ownBlock ∧ some k_ ≠ (.slice Ao33 y334.length co33 : Value).ownBlock ∧ some k_ ≠ (.slice Ao37 y338.length co37 : Value).ownBlock)) (HO_0.out) (fun k_ hk => ⟨hk.1.1.1, ⟨hk.1.1.2, ⟨hk.1.2, hk.2⟩⟩⟩))))) (Reps.one (show Kd.FK (Kd.slice 9 Kd.string) _ _ l1 [.slice A1 l1.length c1] from (Kd.FK_slice_mk (Kd.V_reads' (Kd.V_mono (ok' := (fun k_ => ((P0_ k_ ∨ P1_ k_ ∨ P2_ k_) ∨ w.heap.size ≤ k_) ∧ some k_ ≠ (.slice Ao28 y329.length co28 : Value).ownBlock ∧ some k_ ≠ (.slice Ao33 y334.length co33 : Value).ownBlock ∧ some k_ ≠ (.slice Ao37 y338.length co37 : Value).ownBlock)) (HO_1.out) (fun k_ hk => ⟨hk.1.1.1, ⟨hk.1.1.2, ⟨hk.1.2, hk.2⟩⟩⟩))).2.1 (Kd.V_F (Kd.V_mono (ok' := (fun k_ => ((P0_ k_ ∨ P1_ k_ ∨ P2_ k_) ∨ w.heap.size ≤ k_) ∧ some k_ ≠ (.slice Ao28 y329.length co28 : Value).ownBlock ∧ some k_ ≠ (.slice Ao33 y334.length co33 : Value).ownBlock ∧ some k_ ≠ (.slice Ao37 y338.length co37 : Value).ownBlock)) (HO_1.out) (fun k_ hk => ⟨hk.1.1.1, ⟨hk.1.1.2, ⟨hk.1.2, hk.2⟩⟩⟩))))) (Reps.none _ _))))); intro v343 w39 ho40 hb hg_ hnew_; clear hg_ hnew_; (first | rw [← Ny342.out] at ho40 | (simp only [Int.reduceToNat] at ho40; rw [← Ny342.out] at ho40)); have n0_ := Aside0.mk (Kd.V_elder' (by (with_reducible repeat (first | apply Kd.V_alloc | apply Kd.V_drewN | apply Kd.V_drew)); exact HO_0.out) (Kd.N_base ho40) hb); have n1_ := Aside0.mk (Kd.V_elder' (by (with_reducible repeat (first | apply Kd.V_alloc | apply Kd.V_drewN | apply Kd.V_drew)); exact HO_1.out) (Kd.N_base ho40) hb); have n2_ := Aside0.mk (Kd.V_elder' (by (with_reducible repeat (first | apply Kd.V_alloc | apply Kd.V_drewN | apply Kd.V_drew)); exact HO_2.out) (Kd.N_base ho40) hb); have n3_ := Aside0.mk (Kd.N_elder' (by (with_reducible repeat (first | apply Kd.N_alloc | apply Kd.N_drewN | apply Kd.N_drew)); exact HO331.out) (Kd.N_base ho40) hb); have n4_ := Aside0.mk (Kd.N_elder' (by (with_reducible repeat (first | apply Kd.N_alloc | apply Kd.N_drewN | apply Kd.N_drew)); exact HO336.out) (Kd.N_base ho40) hb); have n5_ := Aside0.mk (Kd.N_elder' (by (with_reducible repeat (first | apply Kd.N_alloc | apply Kd.N_drewN | apply Kd.N_drew)); exact HO340.out) (Kd.N_base ho40) hb); have n6_ := Aside0.mk (Kd.N_lower ho40 (below_size (by repeat (first | (with_reducible first | exact HB.out | apply below_alloc | apply pw_below_drewN | apply below_drew1) | exact HB.out)))); have n7_ := Aside0.mk (below_step (by repeat (first | (with_reducible first | exact HB.out | apply below_alloc | apply pw_below_drewN | apply below_drew1) | exact HB.out)) hb); clear HO_0; clear HO_1; clear HO_2; clear HO331; clear HO336; clear HO340; clear HB; have HO_0 := n0_; have HO_1 := n1_; have HO_2 := n2_; have HO331 := n3_; have HO336 := n4_; have HO340 := n5_; have HO344 := n6_; have HB := n7_; clear n0_ n1_ n2_ n3_ n4_ n5_ n6_ n7_; clear hb ho40; obtain ⟨Ao41, co41, eo41⟩ := Kd.N_slice HO344.out; subst eo41) | (go_at_call 9; (with_reducible refine (log_Common.calls kj3 _ _ y342 t345 _ ?side1 ?side2 A18.out).mono ?_); (case side1 => repeat (first | exact (Kd.N_reads' HO344.out).2.2 | (with_reducible refine Kd.C_alloc ?_ _) | (with_reducible refine Kd.C_drewN ?_ _) | (with_reducible refine Kd.C_drew ?_))); (case side2 => exact (Kd.N_reads' HO344.out).2.1); (try clear A18); rintro e w42 ⟨rfl, hb⟩; have n0_ := Aside0.mk (Kd.V_below (by (with_reducible repeat (first | apply Kd.V_alloc | apply Kd.V_drewN | apply Kd.V_drew)); exact HO_0.out) hb); have n1_ := Aside0.mk (Kd.V_below (by (with_reducible repeat (first | apply Kd.V_alloc | apply Kd.V_drewN | apply Kd.V_drew)); exact HO_1.out) hb); have n2_ := Aside0.mk (Kd.V_below (by (with_reducible repeat (first | apply Kd.V_alloc | apply Kd.V_drewN | apply Kd.V_drew)); exact HO_2.out) hb); have n3_ := Aside0.mk (Kd.N_below (by (with_reducible repeat (first | apply Kd.N_alloc | apply Kd.N_drewN | apply Kd.N_drew)); exact HO331.out) hb); have n4_ := Aside0.mk (Kd.N_below (by (with_reducible repeat (first | apply Kd.N_alloc | apply Kd.N_drewN | apply Kd.N_drew)); exact HO336.out) hb); have n5_ := Aside0.mk (Kd.N_below (by (with_reducible repeat (first | apply Kd.N_alloc | apply Kd.N_drewN | apply Kd.N_drew)); exact HO340.out) hb); have n6_ := Aside0.mk (Kd.N_below (by (with_reducible repeat (first | apply Kd.N_alloc | apply Kd.N_drewN | apply Kd.N_drew)); exact HO344.out) hb); have n7_ := Aside0.mk (below_step (by repeat (first | (with_reducible first | exact HB.out | apply below_alloc | apply pw_below_drewN | apply below_drew1) | exact HB.out)) hb); clear HO_0; clear HO_1; clear HO_2; clear HO331; clear HO336; clear HO340; clear HO344; clear HB; have HO_0 := n0_; have HO_1 := n1_; have HO_2 := n2_; have HO331 := n3_; have HO336 := n4_; have HO340 := n5_; have HO344 := n6_; have HB := n7_; clear n0_ n1_ n2_ n3_ n4_ n5_ n6_ n7_; (try clear hb); (try clear hb2); (try clear hk); (try clear hi)) | ((with_reducible refine gate_dst (N := 52) rfl ?_); (try (refine gate_guard (by rfl) ?_; dsimp only)); refine Kd.N_lit (Kd.slice 9 Kd.string) _ 22 ?hg (N' := 52) ?hd (xs := ([l1, l2, l0, l1] : List (List ByteArray))) (inner := [.slice A1 l1.length c1, .slice A2 l2.length c2, .slice A0 l0.length c0, .slice A1 l1.length c1]) (ok := (fun k_ => ((P0_ k_ ∨ P1_ k_ ∨ P2_ k_) ∨ w.heap.size ≤ k_) ∧ some k_ ≠ (.slice Ao28 y329.length co28 : Value).ownBlock ∧ some k_ ≠ (.slice Ao33 y334.length co33 : Value).ownBlock ∧ some k_ ≠ (.slice Ao37 y338.length co37 : Value).ownBlock ∧ some k_ ≠ (.slice Ao41 y342.length co41 : Value).ownBlock)) (okp := (fun k_ => ((P0_ k_ ∨ P1_ k_ ∨ P2_ k_) ∨ w.heap.size ≤ k_) ∧ some k_ ≠ (.slice Ao28 y329.length co28 : Value).ownBlock ∧ some k_ ≠ (.slice Ao33 y334.length co33 : Value).ownBlock ∧ some k_ ≠ (.slice Ao37 y338.length co37 : Value).ownBlock ∧ some k_ ≠ (.slice Ao41 y342.length co41 : Value).ownBlock)) ?hr ?hp (fun _ hk => hk) ((show ∀ k_, w42.heap.size ≤ k_ → (fun k_ => ((P0_ k_ ∨ P1_ k_ ∨ P2_ k_) ∨ w.heap.size ≤ k_) ∧ some k_ ≠ (.slice Ao28 y329.length co28 : Value).ownBlock ∧ some k_ ≠ (.slice Ao33 y334.length co33 : Value).ownBlock ∧ some k_ ≠ (.slice Ao37 y338.length co37 : Value).ownBlock ∧ some k_ ≠ (.slice Ao41 y342.length co41 : Value).ownBlock) k_ from fun k_ hk => ⟨(.inr (Nat.le_trans (below_size (by repeat (first | (with_reducible first | exact HB.out | apply below_alloc | apply pw_below_drewN | apply below_drew1) | exact HB.out))) hk)), Kd.fresh' (Kd.N_lt (by (with_reducible repeat (first | apply Kd.N_alloc | apply Kd.N_drewN | apply Kd.N_drew)); exact HO331.out)) k_ hk, Kd.fresh' (Kd.N_lt (by (with_reducible repeat (first | apply Kd.N_alloc | apply Kd.N_drewN | apply Kd.N_drew)); exact HO336.out)) k_ hk, Kd.fresh' (Kd.N_lt (by (with_reducible repeat (first | apply Kd.N_alloc | apply Kd.N_drewN | apply Kd.N_drew)); exact HO340.out)) k_ hk, Kd.fresh' (Kd.N_lt (by (with_reducible repeat (first | apply Kd.N_alloc | apply Kd.N_drewN | apply Kd.N_drew)); exact HO344.out)) k_ hk⟩) _ (Nat.le_refl _)) (Below.refl _ _) (Nat.le_refl _) (by simp) ?_; (case hd => rfl); (case hg => rfl); (case hr => first | (go_simp; done) | (go_simp; rfl)); (case hp => exact (Reps.one (show Kd.FK (Kd.slice 9 Kd.string) _ _ l1 [.slice A1 l1.length c1] from (Kd.FK_slice_mk (Kd.V_reads' (Kd.V_mono (ok' := (fun k_ => ((P0_ k_ ∨ P1_ k_ ∨ P2_ k_) ∨ w.heap.size ≤ k_) ∧ some k_ ≠ (.slice Ao28 y329.length co28 : Value).ownBlock ∧ some k_ ≠ (.slice Ao33 y334.length co33 : Value).ownBlock ∧ some k_ ≠ (.slice Ao37 y338.length co37 : Value).ownBlock ∧ some k_ ≠ (.slice Ao41 y342.length co41 : Value).ownBlock)) (HO_1.out) (fun k_ hk => ⟨hk.1.1.1.1, ⟨hk.1.1.1.2, ⟨hk.1.1.2, ⟨hk.1.2, hk.2⟩⟩⟩⟩))).2.1 (Kd.V_F (Kd.V_mono (ok' := (fun k_ => ((P0_ k_ ∨ P1_ k_ ∨ P2_ k_) ∨ w.heap.size ≤ k_) ∧ some k_ ≠ (.slice Ao28 y329.length co28 : Value).ownBlock ∧ some k_ ≠ (.slice Ao33 y334.length co33 : Value).ownBlock ∧ some k_ ≠ (.slice Ao37 y338.length co37 : Value).ownBlock ∧ some k_ ≠ (.slice Ao41 y342.length co41 : Value).ownBlock)) (HO_1.out) (fun k_ hk => ⟨hk.1.1.1.1, ⟨hk.1.1.1.2, ⟨hk.1.1.2, ⟨hk.1.2, hk.2⟩⟩⟩⟩))))) (Reps.one (show Kd.FK (Kd.slice 9 Kd.string) _ _ l2 [.slice A2 l2.length c2] from (Kd.FK_slice_mk (Kd.V_reads' (Kd.V_mono (ok' := (fun k_ => ((P0_ k_ ∨ P1_ k_ ∨ P2_ k_) ∨ w.heap.size ≤ k_) ∧ some k_ ≠ (.slice Ao28 y329.length co28 : Value).ownBlock ∧ some k_ ≠ (.slice Ao33 y334.length co33 : Value).ownBlock ∧ some k_ ≠ (.slice Ao37 y338.length co37 : Value).ownBlock ∧ some k_ ≠ (.slice Ao41 y342.length co41 : Value).ownBlock)) (HO_2.out) (fun k_ hk => ⟨hk.1.1.1.1, ⟨hk.1.1.1.2, ⟨hk.1.1.2, ⟨hk.1.2, hk.2⟩⟩⟩⟩))).2.1 (Kd.V_F (Kd.V_mono (ok' := (fun k_ => ((P0_ k_ ∨ P1_ k_ ∨ P2_ k_) ∨ w.heap.size ≤ k_) ∧ some k_ ≠ (.slice Ao28 y329.length co28 : Value).ownBlock ∧ some k_ ≠ (.slice Ao33 y334.length co33 : Value).ownBlock ∧ some k_ ≠ (.slice Ao37 y338.length co37 : Value).ownBlock ∧ some k_ ≠ (.slice Ao41 y342.length co41 : Value).ownBlock)) (HO_2.out) (fun k_ hk => ⟨hk.1.1.1.1, ⟨hk.1.1.1.2, ⟨hk.1.1.2, ⟨hk.1.2, hk.2⟩⟩⟩⟩))))) (Reps.one (show Kd.FK (Kd.slice 9 Kd.string) _ _ l0 [.slice A0 l0.length c0] from (Kd.FK_slice_mk (Kd.V_reads' (Kd.V_mono (ok' := (fun k_ => ((P0_ k_ ∨ P1_ k_ ∨ P2_ k_) ∨ w.heap.size ≤ k_) ∧ some k_ ≠ (.slice Ao28 y329.length co28 : Value).ownBlock ∧ some k_ ≠ (.slice Ao33 y334.length co33 : Value).ownBlock ∧ some k_ ≠ (.slice Ao37 y338.length co37 : Value).ownBlock ∧ some k_ ≠ (.slice Ao41 y342.length co41 : Value).ownBlock)) (HO_0.out) (fun k_ hk => ⟨hk.1.1.1.1, ⟨hk.1.1.1.2, ⟨hk.1.1.2, ⟨hk.1.2, hk.2⟩⟩⟩⟩))).2.1 (Kd.V_F (Kd.V_mono (ok' := (fun k_ => ((P0_ k_ ∨ P1_ k_ ∨ P2_ k_) ∨ w.heap.size ≤ k_) ∧ some k_ ≠ (.slice Ao28 y329.length co28 : Value).ownBlock ∧ some k_ ≠ (.slice Ao33 y334.length co33 : Value).ownBlock ∧ some k_ ≠ (.slice Ao37 y338.length co37 : Value).ownBlock ∧ some k_ ≠ (.slice Ao41 y342.length co41 : Value).ownBlock)) (HO_0.out) (fun k_ hk => ⟨hk.1.1.1.1, ⟨hk.1.1.1.2, ⟨hk.1.1.2, ⟨hk.1.2, hk.2⟩⟩⟩⟩))))) (Reps.one (show Kd.FK (Kd.slice 9 Kd.string) _ _ l1 [.slice A1 l1.length c1] from (Kd.FK_slice_mk (Kd.V_reads' (Kd.V_mono (ok' := (fun k_ => ((P0_ k_ ∨ P1_ k_ ∨ P2_ k_) ∨ w.heap.size ≤ k_) ∧ some k_ ≠ (.slice Ao28 y329.length co28 : Value).ownBlock ∧ some k_ ≠ (.slice Ao33 y334.length co33 : Value).ownBlock ∧ some k_ ≠ (.slice Ao37 y338.length co37 : Value).ownBlock ∧ some k_ ≠ (.slice Ao41 y342.length co41 : Value).ownBlock)) (HO_1.out) (fun k_ hk => ⟨hk.1.1.1.1, ⟨hk.1.1.1.2, ⟨hk.1.1.2, ⟨hk.1.2, hk.2⟩⟩⟩⟩))).2.1 (Kd.V_F (Kd.V_mono (ok' := (fun k_ => ((P0_ k_ ∨ P1_ k_ ∨ P2_ k_) ∨ w.heap.size ≤ k_) ∧ some k_ ≠ (.slice Ao28 y329.length co28 : Value).ownBlock ∧ some k_ ≠ (.slice Ao33 y334.length co33 : Value).ownBlock ∧ some k_ ≠ (.slice Ao37 y338.length co37 : Value).ownBlock ∧ some k_ ≠ (.slice Ao41 y342.length co41 : Value).ownBlock)) (HO_1.out) (fun k_ hk => ⟨hk.1.1.1.1, ⟨hk.1.1.1.2, ⟨hk.1.1.2, ⟨hk.1.2, hk.2⟩⟩⟩⟩))))) (Reps.none _ _)))))); intro v347 w43 ho44 hb hg_ hnew_; clear hg_ hnew_; (first | rw [← Ny346.out] at ho44 | (simp only [Int.reduceToNat] at ho44; rw [← Ny346.out] at ho44)); have n0_ := Aside0.mk (Kd.V_elder' (by (with_reducible repeat (first | apply Kd.V_alloc | apply Kd.V_drewN | apply Kd.V_drew)); exact HO_0.out) (Kd.N_base ho44) hb); have n1_ := Aside0.mk (Kd.V_elder' (by (with_reducible repeat (first | apply Kd.V_alloc | apply Kd.V_drewN | apply Kd.V_drew)); exact HO_1.out) (Kd.N_base ho44) hb); have n2_ := Aside0.mk (Kd.V_elder' (by (with_reducible repeat (first | apply Kd.V_alloc | apply Kd.V_drewN | apply Kd.V_drew)); exact HO_2.out) (Kd.N_base ho44) hb); have n3_ := Aside0.mk (Kd.N_elder' (by (with_reducible repeat (first | apply Kd.N_alloc | apply Kd.N_drewN | apply Kd.N_drew)); exact HO331.out) (Kd.N_base ho44) hb); have n4_ := Aside0.mk (Kd.N_elder' (by (with_reducible repeat (first | apply Kd.N_alloc | apply Kd.N_drewN | apply Kd.N_drew)); exact HO336.out) (Kd.N_base ho44) hb); have n5_ := Aside0.mk (Kd.N_elder' (by (with_reducible repeat (first | apply Kd.N_alloc | apply Kd.N_drewN | apply Kd.N_drew)); exact HO340.out) (Kd.N_base ho44) hb); have n6_ := Aside0.mk (Kd.N_elder' (by (with_reducible repeat (first | apply Kd.N_alloc | apply Kd.N_drewN | apply Kd.N_drew)); exact HO344.out) (Kd.N_base ho44) hb); have n7_ := Aside0.mk (Kd.N_lower ho44 (below_size (by repeat (first | (with_reducible first | exact HB.out | apply below_alloc | apply pw_below_drewN | apply below_drew1) | exact HB.out)))); have n8_ := Aside0.mk (below_step (by repeat (first | (with_reducible first | exact HB.out | apply below_alloc | apply pw_below_drewN | apply below_drew1) | exact HB.out)) hb); clear HO_0; clear HO_1; clear HO_2; clear HO331; clear HO336; clear HO340; clear HO344; clear HB; have HO_0 := n0_; have HO_1 := n1_; have HO_2 := n2_; have HO331 := n3_; have HO336 := n4_; have HO340 := n5_; have HO344 := n6_; have HO348 := n7_; have HB := n8_; clear n0_ n1_ n2_ n3_ n4_ n5_ n6_ n7_ n8_; clear hb ho44; obtain ⟨Ao45, co45, eo45⟩ := Kd.N_slice HO348.out; subst eo45) | (go_at_call 9; (with_reducible refine (log_Common.calls kj3 _ _ y346 t349 _ ?side1 ?side2 A20.out).mono ?_); (case side1 => repeat (first | exact (Kd.N_reads' HO348.out).2.2 | (with_reducible refine Kd.C_alloc ?_ _) | (with_reducible refine Kd.C_drewN ?_ _) | (with_reducible refine Kd.C_drew ?_))); (case side2 => exact (Kd.N_reads' HO348.out).2.1); (try clear A20); rintro e w46 ⟨rfl, hb⟩; have n0_ := Aside0.mk (Kd.V_below (by (with_reducible repeat (first | apply Kd.V_alloc | apply Kd.V_drewN | apply Kd.V_drew)); exact HO_0.out) hb); have n1_ := Aside0.mk (Kd.V_below (by (with_reducible repeat (first | apply Kd.V_alloc | apply Kd.V_drewN | apply Kd.V_drew)); exact HO_1.out) hb); have n2_ := Aside0.mk (Kd.V_below (by (with_reducible repeat (first | apply Kd.V_alloc | apply Kd.V_drewN | apply Kd.V_drew)); exact HO_2.out) hb); have n3_ := Aside0.mk (Kd.N_below (by (with_reducible repeat (first | apply Kd.N_alloc | apply Kd.N_drewN | apply Kd.N_drew)); exact HO331.out) hb); have n4_ := Aside0.mk (Kd.N_below (by (with_reducible repeat (first | apply Kd.N_alloc | apply Kd.N_drewN | apply Kd.N_drew)); exact HO336.out) hb); have n5_ := Aside0.mk (Kd.N_below (by (with_reducible repeat (first | apply Kd.N_alloc | apply Kd.N_drewN | apply Kd.N_drew)); exact HO340.out) hb); have n6_ := Aside0.mk (Kd.N_below (by (with_reducible repeat (first | apply Kd.N_alloc | apply Kd.N_drewN | apply Kd.N_drew)); exact HO344.out) hb); have n7_ := Aside0.mk (Kd.N_below (by (with_reducible repeat (first | apply Kd.N_alloc | apply Kd.N_drewN | apply Kd.N_drew)); exact HO348.out) hb); have n8_ := Aside0.mk (below_step (by repeat (first | (with_reducible first | exact HB.out | apply below_alloc | apply pw_below_drewN | apply below_drew1) | exact HB.out)) hb); clear HO_0; clear HO_1; clear HO_2; clear HO331; clear HO336; clear HO340; clear HO344; clear HO348; clear HB; have HO_0 := n0_; have HO_1 := n1_; have HO_2 := n2_; have HO331 := n3_; have HO336 := n4_; have HO340 := n5_; have HO344 := n6_; have HO348 := n7_; have HB := n8_; clear n0_ n1_ n2_ n3_ n4_ n5_ n6_ n7_ n8_; (try clear hb); (try clear hb2); (try clear hk); (try clear hi); have q47 : ((ji22) : Int) ≤ ((l0.length : Int) : Int) := of_decide_eq_true (by first | (with_reducible assumption) | assumption); obtain ⟨i047, hi047, _, hsz47, _⟩ := info_parts info9; have hroom47 : l0.length ≤ c0 := (Kd.V_reads' HO_0.out).2.1; have hC47 : Kd.F Kd.string _ _ A0 l0.length l0 := (Kd.V_at (base := w.heap.size) HO_0.out).2.2; have hcut47 := cut_to (P := Try.prog) 22 9 .i64 Try.underlying22 hi047 A0 l0.length c0 (ji22) (of_decide_eq_true (by first | (with_reducible assumption) | assumption)) q47 hroom47; have hr47 := Kd.F_take (m := ((ji22) : Int).toNat) hC47 (by omega); have hy47 : y350.length = ((ji22) : Int).toNat := (by rw [Ny350.out, List.length_take]; omega); rw [← Ny350.out] at hr47; rw [← hy47] at hcut47; have HO354 := Aside0.mk (show Kd.V Kd.string 9 _ w.heap.size _ (.slice A0 y350.length c0) y350 from Kd.V_mk (by omega) hr47); have HC354 := Aside0.mk (show y350.length ≤ c0 from by omega); clear hr47 hC47 hroom47 hi047 hsz47; have KY47 := Aside0.mk hy47; clear hy47; replace q47 := eq_true q47) | (go_at_call 10; (with_reducible refine (log_Front.calls kj3 (fun k_ => (((((((P0_ k_ ∨ P1_ k_ ∨ P2_ k_) ∨ w.heap.size ≤ k_) ∧ some k_ ≠ (.slice Ao28 y329.length co28 : Value).ownBlock) ∧ some k_ ≠ (.slice Ao33 y334.length co33 : Value).ownBlock) ∧ some k_ ≠ (.slice Ao37 y338.length co37 : Value).ownBlock) ∧ some k_ ≠ (.slice Ao41 y342.length co41 : Value).ownBlock) ∧ some k_ ≠ (.slice Ao45 y346.length co45 : Value).ownBlock)) _ _ y350 (fun k_ => (((((((P0_ k_ ∨ P1_ k_ ∨ P2_ k_) ∨ w.heap.size ≤ k_) ∧ some k_ ≠ (.slice Ao28 y329.length co28 : Value).ownBlock) ∧ some k_ ≠ (.slice Ao33 y334.length co33 : Value).ownBlock) ∧ some k_ ≠ (.slice Ao37 y338.length co37 : Value).ownBlock) ∧ some k_ ≠ (.slice Ao41 y342.length co41 : Value).ownBlock) ∧ some k_ ≠ (.slice Ao45 y346.length co45 : Value).ownBlock)) _ _ l2 t355 _ ?side1 ?side2 A25.out).mono ?_); (case side1 => exact HO354.out); (case side2 => exact HO_2.out); rintro e w48 ⟨rfl, hb⟩; have n0_ := Aside0.mk (Kd.V_below (by (with_reducible repeat (first | apply Kd.V_alloc | apply Kd.V_drewN | apply Kd.V_drew)); exact HO_0.out) hb); have n1_ := Aside0.mk (Kd.V_below (by (with_reducible repeat (first | apply Kd.V_alloc | apply Kd.V_drewN | apply Kd.V_drew)); exact HO_1.out) hb); have n2_ := Aside0.mk (Kd.V_below (by (with_reducible repeat (first | apply Kd.V_alloc | apply Kd.V_drewN | apply Kd.V_drew)); exact HO_2.out) hb); have n3_ := Aside0.mk (Kd.N_below (by (with_reducible repeat (first | apply Kd.N_alloc | apply Kd.N_drewN | apply Kd.N_drew)); exact HO331.out) hb); have n4_ := Aside0.mk (Kd.N_below (by (with_reducible repeat (first | apply Kd.N_alloc | apply Kd.N_drewN | apply Kd.N_drew)); exact HO336.out) hb); have n5_ := Aside0.mk (Kd.N_below (by (with_reducible repeat (first | apply Kd.N_alloc | apply Kd.N_drewN | apply Kd.N_drew)); exact HO340.out) hb); have n6_ := Aside0.mk (Kd.N_below (by (with_reducible repeat (first | apply Kd.N_alloc | apply Kd.N_drewN | apply Kd.N_drew)); exact HO344.out) hb); have n7_ := Aside0.mk (Kd.N_below (by (with_reducible repeat (first | apply Kd.N_alloc | apply Kd.N_drewN | apply Kd.N_drew)); exact HO348.out) hb); have n8_ := Aside0.mk (Kd.V_below (by (with_reducible repeat (first | apply Kd.V_alloc | apply Kd.V_drewN | apply Kd.V_drew)); exact HO354.out) hb); have n9_ := Aside0.mk (below_step (by repeat (first | (with_reducible first | exact HB.out | apply below_alloc | apply pw_below_drewN | apply below_drew1) | exact HB.out)) hb); clear HO_0; clear HO_1; clear HO_2; clear HO331; clear HO336; clear HO340; clear HO344; clear HO348; clear HO354; clear HB; have HO_0 := n0_; have HO_1 := n1_; have HO_2 := n2_; have HO331 := n3_; have HO336 := n4_; have HO340 := n5_; have HO344 := n6_; have HO348 := n7_; have HO354 := n8_; have HB := n9_; clear n0_ n1_ n2_ n3_ n4_ n5_ n6_ n7_ n8_ n9_; (try clear hb); (try clear hb2); (try clear hk); (try clear hi)))
                    go_ret
                    exact ⟨by first | rfl | (simp [errW_none, errW_some] <;> rfl) | (simp only [← hji16, ← hji22]; first | rfl | (simp [errW_none, errW_some] <;> rfl)) | (simp [*, errW_none, errW_some] <;> rfl), by repeat (first | (with_reducible first | exact HB.out | apply below_alloc | apply pw_below_drewN | apply below_drew1) | exact HB.out)⟩
                  · rw [if_neg c24] at H
                    exact absurd H (by simp)
                · rw [if_neg c23] at H
                  exact absurd H (by simp)
              · rw [if_neg c21] at H
                exact absurd H (by simp)
            · rw [if_neg c19] at H
              exact absurd H (by simp)
          · rw [if_neg c17] at H
            exact absurd H (by simp)
        · replace c13 := Bool.eq_false_iff.mpr c13
          subst c13
          have H1 : (none) = some r := by rw [if_neg (show ¬ (false = true) by decide)] at H; exact H
          clear H
          have H := H1
          clear H1
          exact absurd H (by simp)

/-! ### watchmanref23_Big: function 17 -/
mutual
def watchmanref23_Big.l0 : Nat → List (S36) → Int → Option (Bool)
  | 0, _, _ => none
  | k + 1, x0, x3 => if x3 < (x0.length : Int) then (watchmanref23_Big.j1 k x0 x3 (decide ((x0.length : Int) ≤ 20))) else (watchmanref23_Big.j1 k x0 x3 false)
def watchmanref23_Big.j1 : Nat → List (S36) → Int → Bool → Option (Bool)
  | 0, _, _, _ => none
  | k + 1, x0, x3, x12 => if x12 = true then (if 0 ≤ x3 then (if x3 < (x0.length : Int) then ((watchmanref01_Short.f k ((rd_T36 x0 x3).f3)).bind fun t357 => (if t357 = true then (watchmanref23_Big.l0 k x0 (wrap64 (x3 + 1))) else (some true))) else (none)) else (none)) else (some (decide ((x0.length : Int) > 20)))
end
def watchmanref23_Big.f (k : Nat) (l0 : List (S36)) : Option (Bool) := watchmanref23_Big.l0 k l0 0
theorem watchmanref23_Big.mono_l : ∀ k, (∀ y0 y1, LeO (watchmanref23_Big.l0 k y0 y1) (watchmanref23_Big.l0 (k + 1) y0 y1)) ∧ (∀ y0 y1 y2, LeO (watchmanref23_Big.j1 k y0 y1 y2) (watchmanref23_Big.j1 (k + 1) y0 y1 y2))
  | 0 => ⟨fun _ _ r h => by simp [watchmanref23_Big.l0] at h, fun _ _ _ r h => by simp [watchmanref23_Big.j1] at h⟩
  | k + 1 => by
    obtain ⟨ih0, ih1⟩ := watchmanref23_Big.mono_l k
    refine ⟨?_, ?_⟩
    · intro y0 y1
      unfold watchmanref23_Big.l0
      repeat' first
      | (with_reducible exact ih0 _ _)
      | (with_reducible exact ih1 _ _ _)
      | (with_reducible exact watchmanref01_Short.mono _ _)
      | (with_reducible exact LeO.refl _)
      | (with_reducible exact LeO.none _)
      | (with_reducible refine LeO.ite ?_ ?_)
      | (with_reducible refine LeO.bind ?_ (fun _ => ?_))
      | exact ih0 _ _
      | exact ih1 _ _ _
      | exact watchmanref01_Short.mono _ _
      | exact LeO.none _
      | refine LeO.ite ?_ ?_
      | refine LeO.bind ?_ (fun _ => ?_)
    · intro y0 y1 y2
      unfold watchmanref23_Big.j1
      repeat' first
      | (with_reducible exact ih0 _ _)
      | (with_reducible exact ih1 _ _ _)
      | (with_reducible exact watchmanref01_Short.mono _ _)
      | (with_reducible exact LeO.refl _)
      | (with_reducible exact LeO.none _)
      | (with_reducible refine LeO.ite ?_ ?_)
      | (with_reducible refine LeO.bind ?_ (fun _ => ?_))
      | exact ih0 _ _
      | exact ih1 _ _ _
      | exact watchmanref01_Short.mono _ _
      | exact LeO.none _
      | refine LeO.ite ?_ ?_
      | refine LeO.bind ?_ (fun _ => ?_)
theorem watchmanref23_Big.mono : ∀ a0 k, LeO (watchmanref23_Big.f k a0) (watchmanref23_Big.f (k + 1) a0) := by
  intro a0 k
  obtain ⟨ih0, ih1⟩ := watchmanref23_Big.mono_l k
  unfold watchmanref23_Big.f
  repeat' first
      | (with_reducible exact ih0 _ _)
      | (with_reducible exact ih1 _ _ _)
      | (with_reducible exact watchmanref01_Short.mono _ _)
      | (with_reducible exact LeO.refl _)
      | (with_reducible exact LeO.none _)
      | (with_reducible refine LeO.ite ?_ ?_)
      | (with_reducible refine LeO.bind ?_ (fun _ => ?_))
      | exact ih0 _ _
      | exact ih1 _ _ _
      | exact watchmanref01_Short.mono _ _
      | exact LeO.none _
      | refine LeO.ite ?_ ?_
      | refine LeO.bind ?_ (fun _ => ?_)
set_option maxHeartbeats 8000000 in
set_option maxRecDepth 100000 in
theorem watchmanref23_Big.calls (k : Nat) (A0 : Option Addr) (c0 : Nat) (l0 : List (S36)) (r : Bool) (w : World) (hr0 : Kd.C k36 w A0 l0.length l0) (hc0 : l0.length ≤ c0) (h : watchmanref23_Big.f k l0 = some r) :
    Calls Try.prog 17 #[.slice A0 l0.length c0] w fun e w' => e = .returned (.bool r) ∧ Below w.heap.size w w' := by
  have HR0 := Aside0.mk hr0
  have HC0 := Aside0.mk hc0
  clear hr0 hc0
  have HB := Aside0.mk (Below.refl w.heap.size w)
  have H : (watchmanref23_Big.l0 k l0 0) = some r := h
  clear h
  have H' := Aside0.mk H
  clear H
  go_enter Try.func17, Try.ntmps17
  go_wp2
  go_loopg [3] k (fun kq v3 w' => ∃ (x3_1 : Int), v3 = .int .i64 x3_1 ∧ Aside0 (watchmanref23_Big.l0 kq l0 x3_1 = some r) ∧ Aside0 (kq ≤ k) ∧ Aside0 (Below w.heap.size w w'))
  case atStart => exact ⟨(0), (by first | rfl | (simp; done) | (simp [*]; done)), H', ⟨Nat.le_refl _⟩, ⟨by repeat (first | (with_reducible first | exact HB.out | apply below_alloc | apply pw_below_drewN | apply below_drew1) | exact HB.out)⟩⟩
  case round =>
    clear H'
    try clear c1
    obtain ⟨x3_1, rfl, HA, HK1, HB⟩ := hrel
    cases gk with
    | zero => exact absurd HA.out (by simp [watchmanref23_Big.l0])
    | succ k1 =>
      have H := HA.out
      clear HA
      simp only [watchmanref23_Big.l0] at H
      have HC2 := Aside0.mk H
      clear H
      go_upto_region 2 with (fail)
      go_cut [12] (fun v12 wc => ∃ (kq : Nat) (x12_1 : Bool), v12 = .bool x12_1 ∧ Aside0 (watchmanref23_Big.j1 kq l0 x3_1 x12_1 = some r) ∧ Aside0 (kq ≤ k1) ∧ Aside0 (Below w.heap.size w wc))
      case first =>
        have H := HC2.out
        clear HC2
        by_cases c3 : x3_1 < (l0.length : Int)
        · rw [if_pos c3] at H
          have c3b0 : decide (x3_1 < (l0.length : Int)) = true := decide_eq_true c3
          clear c3
          (first | rw [c3b0] | (simp only [i64_w, i32_w]; rw [c3b0]) | skip)
          have H' := Aside0.mk H
          clear H
          go_wp2
          go_meet
          case rel => exact ⟨_, (decide ((l0.length : Int) ≤ 20)), (by first | rfl | (simp; done) | (simp [*]; done)), H', ⟨by have := HK1.out; first | omega | exact Nat.le_refl _⟩, ⟨by repeat (first | (with_reducible first | exact HB.out | apply below_alloc | apply pw_below_drewN | apply below_drew1) | exact HB.out)⟩⟩
        · rw [if_neg c3] at H
          have c3b0 : decide (x3_1 < (l0.length : Int)) = false := decide_eq_false c3
          clear c3
          (first | rw [c3b0] | (simp only [i64_w, i32_w]; rw [c3b0]) | skip)
          have H' := Aside0.mk H
          clear H
          go_wp2
          go_meet
          case rel => exact ⟨_, (false), (by first | rfl | (simp; done) | (simp [*]; done)), H', ⟨by have := HK1.out; first | omega | exact Nat.le_refl _⟩, ⟨by repeat (first | (with_reducible first | exact HB.out | apply below_alloc | apply pw_below_drewN | apply below_drew1) | exact HB.out)⟩⟩
      case rest =>
        clear HC2
        try clear c1
        try clear p2
        try clear c3
        try clear c3b0
        obtain ⟨kq, x12_1, rfl, HA, HJ1, HB⟩ := hcut
        cases kq with
        | zero => exact absurd HA.out (by simp [watchmanref23_Big.j1])
        | succ kj1 =>
          have H := HA.out
          clear HA
          simp only [watchmanref23_Big.j1] at H
          by_cases c4 : x12_1 = true
          · subst c4
            have H1 : (if 0 ≤ x3_1 then (if x3_1 < (l0.length : Int) then ((watchmanref01_Short.f kj1 ((rd_T36 l0 x3_1).f3)).bind fun t357 => (if t357 = true then (watchmanref23_Big.l0 kj1 l0 (wrap64 (x3_1 + 1))) else (some true))) else (none)) else (none)) = some r := by rw [if_pos rfl] at H; exact H
            clear H
            have H := H1
            clear H1
            by_cases c5 : 0 ≤ x3_1
            · rw [if_pos c5] at H
              have c5b0 : decide (0 ≤ x3_1) = true := decide_eq_true c5
              clear c5
              by_cases c6 : x3_1 < (l0.length : Int)
              · rw [if_pos c6] at H
                have c6b0 : decide (x3_1 < (l0.length : Int)) = true := decide_eq_true c6
                clear c6
                replace H := Option.bind_eq_some_iff.mp H
                obtain ⟨t357, A70, H⟩ := H
                replace H : (if t357 = true then (watchmanref23_Big.l0 kj1 l0 (wrap64 (x3_1 + 1))) else (some true)) = some r := H
                have A7 := Aside0.mk A70
                clear A70
                by_cases c8 : t357 = true
                · subst c8
                  have H1 : (watchmanref23_Big.l0 kj1 l0 (wrap64 (x3_1 + 1))) = some r := by rw [if_pos rfl] at H; exact H
                  clear H
                  have H := H1
                  clear H1
                  have H' := Aside0.mk H
                  clear H
                  have p356 : 0 ≤ (x3_1 : Int) := of_decide_eq_true (by first | (with_reducible assumption) | assumption)
                  have q356 : x3_1 < (l0.length : Int) := of_decide_eq_true (by first | (with_reducible assumption) | assumption)
                  obtain ⟨ad356, A356_3, c356_3, e356, hx356_0, hx356_1, hx356_2, hx356_3, hl356_3, hi356_3⟩ := at_T36 HR0.out x3_1 p356 q356
                  cases e356
                  replace hx356_0 := (HB.out.cell (World.block_lt_of_cell? w _ hx356_0)).trans hx356_0
                  replace hx356_1 := (HB.out.cell (World.block_lt_of_cell? w _ hx356_1)).trans hx356_1
                  replace hx356_2 := (HB.out.cell (World.block_lt_of_cell? w _ hx356_2)).trans hx356_2
                  replace hx356_3 := (HB.out.cell (World.block_lt_of_cell? w _ hx356_3)).trans hx356_3
                  have HR356_3 := Aside0.mk hi356_3
                  have HC356_3 := Aside0.mk hl356_3
                  clear hi356_3 hl356_3
                  replace p356 := eq_true p356
                  replace q356 := eq_true q356
                  go_wp2_with (first | ((with_reducible refine gate_callee (f := 31) rfl ?_); refine goesL_ (some 20) rfl rfl Try.func31 (by kernel_rfl) rfl #[.slice A356_3 ((rd_T36 l0 x3_1).f3).length c356_3] rfl (by (try simp only [List.map_toArray, List.map_cons, List.map_nil]); first | done | rfl | (simp only [List.length_drop, List.length_take]; rfl)) ?_; (with_reducible refine (watchmanref01_Short.calls kj1 _ _ ((rd_T36 l0 x3_1).f3) true _ ?side1 ?side2 A7.out).mono ?_); (case side1 => repeat (first | exact (Kd.C_below HR356_3.out HB.out) | (with_reducible refine Kd.C_alloc ?_ _) | (with_reducible refine Kd.C_drewN ?_ _) | (with_reducible refine Kd.C_drew ?_))); (case side2 => exact HC356_3.out); rintro e w' ⟨rfl, ⟨nd, rfl⟩⟩; refine ⟨_, rfl, ?_⟩))
                  go_roundg kj1
                  case measure => have := HK1.out; have := HJ1.out; omega
                  case rel => exact ⟨(wrap64 (x3_1 + 1)), (by first | rfl | (simp; done) | (simp [*]; done)), H', ⟨by have := HK1.out; have := HJ1.out; omega⟩, ⟨by repeat (first | (with_reducible first | exact HB.out | apply below_alloc | apply pw_below_drewN | apply below_drew1) | exact HB.out)⟩⟩
                · replace c8 := Bool.eq_false_iff.mpr c8
                  subst c8
                  have H1 : (some true) = some r := by rw [if_neg (show ¬ (false = true) by decide)] at H; exact H
                  clear H
                  have H := H1
                  clear H1
                  obtain rfl := Option.some.inj H
                  have p356 : 0 ≤ (x3_1 : Int) := of_decide_eq_true (by first | (with_reducible assumption) | assumption)
                  have q356 : x3_1 < (l0.length : Int) := of_decide_eq_true (by first | (with_reducible assumption) | assumption)
                  obtain ⟨ad356, A356_3, c356_3, e356, hx356_0, hx356_1, hx356_2, hx356_3, hl356_3, hi356_3⟩ := at_T36 HR0.out x3_1 p356 q356
                  cases e356
                  replace hx356_0 := (HB.out.cell (World.block_lt_of_cell? w _ hx356_0)).trans hx356_0
                  replace hx356_1 := (HB.out.cell (World.block_lt_of_cell? w _ hx356_1)).trans hx356_1
                  replace hx356_2 := (HB.out.cell (World.block_lt_of_cell? w _ hx356_2)).trans hx356_2
                  replace hx356_3 := (HB.out.cell (World.block_lt_of_cell? w _ hx356_3)).trans hx356_3
                  have HR356_3 := Aside0.mk hi356_3
                  have HC356_3 := Aside0.mk hl356_3
                  clear hi356_3 hl356_3
                  replace p356 := eq_true p356
                  replace q356 := eq_true q356
                  go_wp2_with (first | ((with_reducible refine gate_callee (f := 31) rfl ?_); refine goesL_ (some 20) rfl rfl Try.func31 (by kernel_rfl) rfl #[.slice A356_3 ((rd_T36 l0 x3_1).f3).length c356_3] rfl (by (try simp only [List.map_toArray, List.map_cons, List.map_nil]); first | done | rfl | (simp only [List.length_drop, List.length_take]; rfl)) ?_; (with_reducible refine (watchmanref01_Short.calls kj1 _ _ ((rd_T36 l0 x3_1).f3) false _ ?side1 ?side2 A7.out).mono ?_); (case side1 => repeat (first | exact (Kd.C_below HR356_3.out HB.out) | (with_reducible refine Kd.C_alloc ?_ _) | (with_reducible refine Kd.C_drewN ?_ _) | (with_reducible refine Kd.C_drew ?_))); (case side2 => exact HC356_3.out); rintro e w' ⟨rfl, ⟨nd, rfl⟩⟩; refine ⟨_, rfl, ?_⟩))
                  go_ret
                  exact ⟨by first | rfl | (simp [errW_none, errW_some] <;> rfl) | (simp [*, errW_none, errW_some] <;> rfl), by repeat (first | (with_reducible first | exact HB.out | apply below_alloc | apply pw_below_drewN | apply below_drew1) | exact HB.out)⟩
              · rw [if_neg c6] at H
                exact absurd H (by simp)
            · rw [if_neg c5] at H
              exact absurd H (by simp)
          · replace c4 := Bool.eq_false_iff.mpr c4
            subst c4
            have H1 : (some (decide ((l0.length : Int) > 20))) = some r := by rw [if_neg (show ¬ (false = true) by decide)] at H; exact H
            clear H
            have H := H1
            clear H1
            obtain rfl := Option.some.inj H
            go_wp2
            go_ret
            exact ⟨by first | rfl | (simp [errW_none, errW_some] <;> rfl) | (simp [*, errW_none, errW_some] <;> rfl), by repeat (first | (with_reducible first | exact HB.out | apply below_alloc | apply pw_below_drewN | apply below_drew1) | exact HB.out)⟩

end Go.Proofs.Ytncoccpgdgdknaa.F
