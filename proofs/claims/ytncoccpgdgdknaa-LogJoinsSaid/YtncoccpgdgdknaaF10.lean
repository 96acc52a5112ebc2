-- Written by a program of this session (xprint.py), out of the translation and of contracts proved by hand.
import Derived.Test.YtncoccpgdgdknaaF0
import Derived.Test.YtncoccpgdgdknaaF1
import Derived.Test.YtncoccpgdgdknaaF2
import Derived.Test.YtncoccpgdgdknaaF3
import Derived.Test.YtncoccpgdgdknaaF4
import Derived.Test.YtncoccpgdgdknaaF7
import Derived.Test.YtncoccpgdgdknaaF9
namespace Go.Proofs.Ytncoccpgdgdknaa.F
open Go.RowKit Go.Proofs.YtncoccpgdgdknaaW.PrintWords Go.Proofs.YtncoccpgdgdknaaW.PrintLast Go.Proofs.YtncoccpgdgdknaaW.PrintMore
attribute [local go_sem] max2_int min2_int max_two min_two max_three min_three max_four min_four   -- for this text's walks alone
set_option linter.unusedVariables false
set_option linter.unusedSimpArgs false

/-! ### watchmanlaw23_LogJoins: function 4 -/
mutual
def watchmanlaw23_LogJoins.j0 : Nat → List ByteArray → Int → List ByteArray → Bool → Option (Bool)
  | 0, _, _, _, _ => none
  | k + 1, x0, x1, x2, x20 => if x20 = true then (some true) else ((log_Join.f k x0 x1 x2).bind fun bt285 => (if bt285.2 = true then (if (bt285.1.length : Int) = (wrap64 (x1 + (x2.length : Int))) then (if 0 ≤ x1 then (if x1 ≤ (x0.length : Int) then ((log_Front.f k (x0.take (x1 : Int).toNat) bt285.1).bind fun t297 => (if t297 = true then (if x1 ≤ (bt285.1.length : Int) then ((watchmanref01_Texts.f k (bt285.1.drop (x1 : Int).toNat) x2).bind fun t302 => (watchmanlaw23_LogJoins.j1 k x0 x1 x2 bt285.1 (!t302))) else (none)) else (watchmanlaw23_LogJoins.j1 k x0 x1 x2 bt285.1 true))) else (none)) else (none)) else (watchmanlaw23_LogJoins.j1 k x0 x1 x2 bt285.1 true)) else ((watchmanlaw23_joined.f k).bind fun t289 => (if t289 = true then (if x1 < 0 then ((watchmanref01_Texts.f k bt285.1 x0).bind fun t290 => (some t290)) else (if x1 > (x0.length : Int) then ((watchmanref01_Texts.f k bt285.1 x0).bind fun t291 => (some t291)) else (none))) else (none)))))
def watchmanlaw23_LogJoins.j1 : Nat → List ByteArray → Int → List ByteArray → List ByteArray → Bool → Option (Bool)
  | 0, _, _, _, _, _ => none
  | k + 1, x0, x1, x2, x7, x68 => if x68 = true then (none) else ((log_Since.f x0 x1).bind fun t303 => ((log_Join.f k x0 x1 t303).bind fun bt306 => (if 0 ≤ x1 then (if x1 ≤ (x0.length : Int) then ((watchmanref01_OwnTexts.f (x0.take (x1 : Int).toNat)).bind fun t315 => (watchmanlaw23_LogJoins.l0 k x0 x2 x7 bt306.1 bt306.2 t315 0)) else (none)) else (none))))
def watchmanlaw23_LogJoins.l0 : Nat → List ByteArray → List ByteArray → List ByteArray → List ByteArray → Bool → List ByteArray → Int → Option (Bool)
  | 0, _, _, _, _, _, _, _ => none
  | k + 1, x0, x2, x7, x9, x10, x11, x12 => if x12 < (x2.length : Int) then (if 0 ≤ x12 then ((log_Put.f x11 (wrap64 ((x11.length : Int) + 1)) (rdOf ByteArray.empty x2 x12)).bind fun bt319 => (if bt319.2 = true then (watchmanlaw23_LogJoins.l0 k x0 x2 x7 x9 x10 bt319.1 (wrap64 (x12 + 1))) else (none))) else (none)) else ((watchmanlaw23_joined.f k).bind fun t323 => (if t323 = true then (if x10 = true then ((watchmanref01_Texts.f k x9 x0).bind fun t324 => (if t324 = true then ((watchmanref01_Texts.f k x11 x7).bind fun t325 => (some t325)) else (none))) else (none)) else (none)))
end
def watchmanlaw23_LogJoins.f (k : Nat) (l0 : List ByteArray) (a1 : Int) (l2 : List ByteArray) : Option (Bool) := (watchmanlaw23_far.f k l0).bind fun t283 => (if t283 = true then (watchmanlaw23_LogJoins.j0 k l0 a1 l2 true) else ((watchmanlaw23_far.f k l2).bind fun t284 => (watchmanlaw23_LogJoins.j0 k l0 a1 l2 t284)))
theorem watchmanlaw23_LogJoins.mono_l : ∀ k, (∀ y0 y1 y2 y3, LeO (watchmanlaw23_LogJoins.j0 k y0 y1 y2 y3) (watchmanlaw23_LogJoins.j0 (k + 1) y0 y1 y2 y3)) ∧ (∀ y0 y1 y2 y3 y4, LeO (watchmanlaw23_LogJoins.j1 k y0 y1 y2 y3 y4) (watchmanlaw23_LogJoins.j1 (k + 1) y0 y1 y2 y3 y4)) ∧ (∀ y0 y1 y2 y3 y4 y5 y6, LeO (watchmanlaw23_LogJoins.l0 k y0 y1 y2 y3 y4 y5 y6) (watchmanlaw23_LogJoins.l0 (k + 1) y0 y1 y2 y3 y4 y5 y6))
  | 0 => ⟨fun _ _ _ _ r h => by simp [watchmanlaw23_LogJoins.j0] at h, fun _ _ _ _ _ r h => by simp [watchmanlaw23_LogJoins.j1] at h, fun _ _ _ _ _ _ _ r h => by simp [watchmanlaw23_LogJoins.l0] at h⟩
  | k + 1 => by
    obtain ⟨ih0, ih1, ih2⟩ := watchmanlaw23_LogJoins.mono_l k
    refine ⟨?_, ?_, ?_⟩
    · intro y0 y1 y2 y3
      unfold watchmanlaw23_LogJoins.j0
      repeat' first
      | (with_reducible exact ih0 _ _ _ _)
      | (with_reducible exact ih1 _ _ _ _ _)
      | (with_reducible exact ih2 _ _ _ _ _ _ _)
      | (with_reducible exact log_Front.mono _ _ _)
      | (with_reducible exact log_Join.mono _ _ _ _)
      | (with_reducible exact watchmanlaw23_far.mono _ _)
      | (with_reducible exact watchmanlaw23_joined.mono _)
      | (with_reducible exact watchmanref01_Texts.mono _ _ _)
      | (with_reducible exact LeO.refl _)
      | (with_reducible exact LeO.none _)
      | (with_reducible refine LeO.ite ?_ ?_)
      | (with_reducible refine LeO.bind ?_ (fun _ => ?_))
      | exact ih0 _ _ _ _
      | exact ih1 _ _ _ _ _
      | exact ih2 _ _ _ _ _ _ _
      | exact log_Front.mono _ _ _
      | exact log_Join.mono _ _ _ _
      | exact watchmanlaw23_far.mono _ _
      | exact watchmanlaw23_joined.mono _
      | exact watchmanref01_Texts.mono _ _ _
      | exact LeO.none _
      | refine LeO.ite ?_ ?_
      | refine LeO.bind ?_ (fun _ => ?_)
    · intro y0 y1 y2 y3 y4
      unfold watchmanlaw23_LogJoins.j1
      repeat' first
      | (with_reducible exact ih0 _ _ _ _)
      | (with_reducible exact ih1 _ _ _ _ _)
      | (with_reducible exact ih2 _ _ _ _ _ _ _)
      | (with_reducible exact log_Front.mono _ _ _)
      | (with_reducible exact log_Join.mono _ _ _ _)
      | (with_reducible exact watchmanlaw23_far.mono _ _)
      | (with_reducible exact watchmanlaw23_joined.mono _)
      | (with_reducible exact watchmanref01_Texts.mono _ _ _)
      | (with_reducible exact LeO.refl _)
      | (with_reducible exact LeO.none _)
      | (with_reducible refine LeO.ite ?_ ?_)
      | (with_reducible refine LeO.bind ?_ (fun _ => ?_))
      | exact ih0 _ _ _ _
      | exact ih1 _ _ _ _ _
      | exact ih2 _ _ _ _ _ _ _
      | exact log_Front.mono _ _ _
      | exact log_Join.mono _ _ _ _
      | exact watchmanlaw23_far.mono _ _
      | exact watchmanlaw23_joined.mono _
      | exact watchmanref01_Texts.mono _ _ _
      | exact LeO.none _
      | refine LeO.ite ?_ ?_
      | refine LeO.bind ?_ (fun _ => ?_)
    · intro y0 y1 y2 y3 y4 y5 y6
      unfold watchmanlaw23_LogJoins.l0
      repeat' first
      | (with_reducible exact ih0 _ _ _ _)
      | (with_reducible exact ih1 _ _ _ _ _)
      | (with_reducible exact ih2 _ _ _ _ _ _ _)
      | (with_reducible exact log_Front.mono _ _ _)
      | (with_reducible exact log_Join.mono _ _ _ _)
      | (with_reducible exact watchmanlaw23_far.mono _ _)
      | (with_reducible exact watchmanlaw23_joined.mono _)
      | (with_reducible exact watchmanref01_Texts.mono _ _ _)
      | (with_reducible exact LeO.refl _)
      | (with_reducible exact LeO.none _)
      | (with_reducible refine LeO.ite ?_ ?_)
      | (with_reducible refine LeO.bind ?_ (fun _ => ?_))
      | exact ih0 _ _ _ _
      | exact ih1 _ _ _ _ _
      | exact ih2 _ _ _ _ _ _ _
      | exact log_Front.mono _ _ _
      | exact log_Join.mono _ _ _ _
      | exact watchmanlaw23_far.mono _ _
      | exact watchmanlaw23_joined.mono _
      | exact watchmanref01_Texts.mono _ _ _
      | exact LeO.none _
      | refine LeO.ite ?_ ?_
      | refine LeO.bind ?_ (fun _ => ?_)
theorem watchmanlaw23_LogJoins.mono : ∀ a0 a1 a2 k, LeO (watchmanlaw23_LogJoins.f k a0 a1 a2) (watchmanlaw23_LogJoins.f (k + 1) a0 a1 a2) := by
  intro a0 a1 a2 k
  obtain ⟨ih0, ih1, ih2⟩ := watchmanlaw23_LogJoins.mono_l k
  unfold watchmanlaw23_LogJoins.f
  repeat' first
      | (with_reducible exact ih0 _ _ _ _)
      | (with_reducible exact ih1 _ _ _ _ _)
      | (with_reducible exact ih2 _ _ _ _ _ _ _)
      | (with_reducible exact log_Front.mono _ _ _)
      | (with_reducible exact log_Join.mono _ _ _ _)
      | (with_reducible exact watchmanlaw23_far.mono _ _)
      | (with_reducible exact watchmanlaw23_joined.mono _)
      | (with_reducible exact watchmanref01_Texts.mono _ _ _)
      | (with_reducible exact LeO.refl _)
      | (with_reducible exact LeO.none _)
      | (with_reducible refine LeO.ite ?_ ?_)
      | (with_reducible refine LeO.bind ?_ (fun _ => ?_))
      | exact ih0 _ _ _ _
      | exact ih1 _ _ _ _ _
      | exact ih2 _ _ _ _ _ _ _
      | exact log_Front.mono _ _ _
      | exact log_Join.mono _ _ _ _
      | exact watchmanlaw23_far.mono _ _
      | exact watchmanlaw23_joined.mono _
      | exact watchmanref01_Texts.mono _ _ _
      | exact LeO.none _
      | refine LeO.ite ?_ ?_
      | refine LeO.bind ?_ (fun _ => ?_)
set_option maxHeartbeats 8000000 in
set_option maxRecDepth 100000 in
theorem watchmanlaw23_LogJoins.calls (k : Nat) (P0_ : Nat → Prop) (A0 : Option Addr) (c0 : Nat) (l0 : List ByteArray) (a1 : Int) (P2_ : Nat → Prop) (A2 : Option Addr) (c2 : Nat) (l2 : List ByteArray) (r : Bool) (w : World) (hs0 : Kd.V Kd.string 9 w w.heap.size (fun k_ => P0_ k_) (.slice A0 l0.length c0) l0) (hs2 : Kd.V Kd.string 9 w w.heap.size (fun k_ => P2_ k_) (.slice A2 l2.length c2) l2) (h : watchmanlaw23_LogJoins.f k l0 a1 l2 = some r) :
    Calls Try.prog 4 #[.slice A0 l0.length c0, .int .i64 a1, .slice A2 l2.length c2] w fun e w' => e = .returned (.bool r) ∧ Below w.heap.size w w' := by
  have HO0 := Aside0.mk (show Kd.V Kd.string 9 w w.heap.size (fun k_ => ((P0_ k_ ∨ P2_ k_) ∨ w.heap.size ≤ k_)) (.slice A0 l0.length c0) l0 from Kd.V_mono hs0 (fun k_ hk => .inl (.inl hk)))
  have HO2 := Aside0.mk (show Kd.V Kd.string 9 w w.heap.size (fun k_ => ((P0_ k_ ∨ P2_ k_) ∨ w.heap.size ≤ k_)) (.slice A2 l2.length c2) l2 from Kd.V_mono hs2 (fun k_ hk => .inl (.inr hk)))
  have HB := Aside0.mk (Below.refl w.heap.size w)
  have H : ((watchmanlaw23_far.f k l0).bind fun t283 => (if t283 = true then (watchmanlaw23_LogJoins.j0 k l0 a1 l2 true) else ((watchmanlaw23_far.f k l2).bind fun t284 => (watchmanlaw23_LogJoins.j0 k l0 a1 l2 t284)))) = some r := h
  clear h
  have HC4 := Aside0.mk H
  clear H
  go_enter Try.func4, Try.ntmps4
  go_upto_region 1 with (fail)
  go_cut [20] (fun v20 wc => ∃ (kq : Nat) (x20_3 : Bool), v20 = .bool x20_3 ∧ Aside0 (watchmanlaw23_LogJoins.j0 kq l0 a1 l2 x20_3 = some r) ∧ Aside0 (kq ≤ k) ∧ Aside0 (Kd.V Kd.string 9 wc w.heap.size (fun k_ => ((P0_ k_ ∨ P2_ k_) ∨ w.heap.size ≤ k_)) (.slice A0 l0.length c0) l0) ∧ Aside0 (Kd.V Kd.string 9 wc w.heap.size (fun k_ => ((P0_ k_ ∨ P2_ k_) ∨ w.heap.size ≤ k_)) (.slice A2 l2.length c2) l2) ∧ Aside0 (Below w.heap.size w wc))
  case first =>
    have H := HC4.out
    clear HC4
    replace H := Option.bind_eq_some_iff.mp H
    obtain ⟨t283, A50, H⟩ := H
    replace H : (if t283 = true then (watchmanlaw23_LogJoins.j0 k l0 a1 l2 true) else ((watchmanlaw23_far.f k l2).bind fun t284 => (watchmanlaw23_LogJoins.j0 k l0 a1 l2 t284))) = some r := H
    have A5 := Aside0.mk A50
    clear A50
    by_cases c6 : t283 = true
    · subst c6
      have H1 : (watchmanlaw23_LogJoins.j0 k l0 a1 l2 true) = some r := by rw [if_pos rfl] at H; exact H
      clear H
      have H := H1
      clear H1
      have H' := Aside0.mk H
      clear H
      go_wp2_with (first | ((with_reducible refine gate_callee (f := 8) rfl ?_); refine goesL_ (some 16) rfl rfl Try.func8 (by kernel_rfl) rfl #[.slice A0 l0.length c0] rfl (by (try simp only [List.map_toArray, List.map_cons, List.map_nil]); first | done | rfl | (simp only [List.length_drop, List.length_take]; rfl)) ?_; (with_reducible refine (watchmanlaw23_far.calls k _ _ l0 true _ ?side1 ?side2 A5.out).mono ?_); (case side1 => repeat (first | exact (Kd.V_reads' HO0.out).2.2 | (with_reducible refine Kd.C_alloc ?_ _) | (with_reducible refine Kd.C_drewN ?_ _) | (with_reducible refine Kd.C_drew ?_))); (case side2 => exact (Kd.V_reads' HO0.out).2.1); rintro e w' ⟨rfl, ⟨nd, rfl⟩⟩; refine ⟨_, rfl, ?_⟩))
      go_meet
      case rel => exact ⟨_, (true), (by first | rfl | (simp; done) | (simp [*]; done)), H', ⟨by first | omega | exact Nat.le_refl _⟩, ⟨by (with_reducible repeat (first | apply Kd.V_alloc | apply Kd.V_drewN | apply Kd.V_drew)); exact HO0.out⟩, ⟨by (with_reducible repeat (first | apply Kd.V_alloc | apply Kd.V_drewN | apply Kd.V_drew)); exact HO2.out⟩, ⟨by repeat (first | (with_reducible first | exact HB.out | apply below_alloc | apply pw_below_drewN | apply below_drew1) | exact HB.out)⟩⟩
    · replace c6 := Bool.eq_false_iff.mpr c6
      subst c6
      have H1 : ((watchmanlaw23_far.f k l2).bind fun t284 => (watchmanlaw23_LogJoins.j0 k l0 a1 l2 t284)) = some r := by rw [if_neg (show ¬ (false = true) by decide)] at H; exact H
      clear H
      have H := H1
      clear H1
      replace H := Option.bind_eq_some_iff.mp H
      obtain ⟨t284, A70, H⟩ := H
      replace H : (watchmanlaw23_LogJoins.j0 k l0 a1 l2 t284) = some r := H
      have A7 := Aside0.mk A70
      clear A70
      have H' := Aside0.mk H
      clear H
      go_wp2_with (first | ((with_reducible refine gate_callee (f := 8) rfl ?_); refine goesL_ (some 16) rfl rfl Try.func8 (by kernel_rfl) rfl #[.slice A0 l0.length c0] rfl (by (try simp only [List.map_toArray, List.map_cons, List.map_nil]); first | done | rfl | (simp only [List.length_drop, List.length_take]; rfl)) ?_; (with_reducible refine (watchmanlaw23_far.calls k _ _ l0 false _ ?side1 ?side2 A5.out).mono ?_); (case side1 => repeat (first | exact (Kd.V_reads' HO0.out).2.2 | (with_reducible refine Kd.C_alloc ?_ _) | (with_reducible refine Kd.C_drewN ?_ _) | (with_reducible refine Kd.C_drew ?_))); (case side2 => exact (Kd.V_reads' HO0.out).2.1); (try clear A5); rintro e w' ⟨rfl, ⟨nd, rfl⟩⟩; refine ⟨_, rfl, ?_⟩) | (go_at_call 8; (with_reducible refine (watchmanlaw23_far.calls k _ _ l2 t284 _ ?side1 ?side2 A7.out).mono ?_); (case side1 => repeat (first | exact (Kd.V_reads' HO2.out).2.2 | (with_reducible refine Kd.C_alloc ?_ _) | (with_reducible refine Kd.C_drewN ?_ _) | (with_reducible refine Kd.C_drew ?_))); (case side2 => exact (Kd.V_reads' HO2.out).2.1); (try clear A7); rintro e w' ⟨rfl, ⟨nd, rfl⟩⟩))
      go_meet
      case rel => exact ⟨_, (t284), (by first | rfl | (simp; done) | (simp [*]; done)), H', ⟨by first | omega | exact Nat.le_refl _⟩, ⟨by (with_reducible repeat (first | apply Kd.V_alloc | apply Kd.V_drewN | apply Kd.V_drew)); exact HO0.out⟩, ⟨by (with_reducible repeat (first | apply Kd.V_alloc | apply Kd.V_drewN | apply Kd.V_drew)); exact HO2.out⟩, ⟨by repeat (first | (with_reducible first | exact HB.out | apply below_alloc | apply pw_below_drewN | apply below_drew1) | exact HB.out)⟩⟩
  case rest =>
    clear HC4
    try clear c2
    try clear p2
    try clear c4
    try clear c6
    obtain ⟨kq, x20_3, rfl, HA, HJ3, HO_0, HO_2, HB⟩ := hcut
    cases kq with
    | zero => exact absurd HA.out (by simp [watchmanlaw23_LogJoins.j0])
    | succ kj3 =>
      have H := HA.out
      clear HA
      simp only [watchmanlaw23_LogJoins.j0] at H
      by_cases c8 : x20_3 = true
      · subst c8
        have H1 : (some true) = some r := by rw [if_pos rfl] at H; exact H
        clear H
        have H := H1
        clear H1
        obtain rfl := Option.some.inj H
        go_wp2
        go_ret
        exact ⟨by first | rfl | (simp [errW_none, errW_some] <;> rfl) | (simp [*, errW_none, errW_some] <;> rfl), by repeat (first | (with_reducible first | exact HB.out | apply below_alloc | apply pw_below_drewN | apply below_drew1) | exact HB.out)⟩
      · replace c8 := Bool.eq_false_iff.mpr c8
        subst c8
        have H1 : ((log_Join.f kj3 l0 a1 l2).bind fun bt285 => (if bt285.2 = true then (if (bt285.1.length : Int) = (wrap64 (a1 + (l2.length : Int))) then (if 0 ≤ a1 then (if a1 ≤ (l0.length : Int) then ((log_Front.f kj3 (l0.take (a1 : Int).toNat) bt285.1).bind fun t297 => (if t297 = true then (if a1 ≤ (bt285.1.length : Int) then ((watchmanref01_Texts.f kj3 (bt285.1.drop (a1 : Int).toNat) l2).bind fun t302 => (watchmanlaw23_LogJoins.j1 kj3 l0 a1 l2 bt285.1 (!t302))) else (none)) else (watchmanlaw23_LogJoins.j1 kj3 l0 a1 l2 bt285.1 true))) else (none)) else (none)) else (watchmanlaw23_LogJoins.j1 kj3 l0 a1 l2 bt285.1 true)) else ((watchmanlaw23_joined.f kj3).bind fun t289 => (if t289 = true then (if a1 < 0 then ((watchmanref01_Texts.f kj3 bt285.1 l0).bind fun t290 => (some t290)) else (if a1 > (l0.length : Int) then ((watchmanref01_Texts.f kj3 bt285.1 l0).bind fun t291 => (some t291)) else (none))) else (none))))) = some r := by rw [if_neg (show ¬ (false = true) by decide)] at H; exact H
        clear H
        have H := H1
        clear H1
        replace H := Option.bind_eq_some_iff.mp H
        obtain ⟨⟨t285, t288⟩, A90, H⟩ := H
        replace H : (if t288 = true then (if (t285.length : Int) = (wrap64 (a1 + (l2.length : Int))) then (if 0 ≤ a1 then (if a1 ≤ (l0.length : Int) then ((log_Front.f kj3 (l0.take (a1 : Int).toNat) t285).bind fun t297 => (if t297 = true then (if a1 ≤ (t285.length : Int) then ((watchmanref01_Texts.f kj3 (t285.drop (a1 : Int).toNat) l2).bind fun t302 => (watchmanlaw23_LogJoins.j1 kj3 l0 a1 l2 t285 (!t302))) else (none)) else (watchmanlaw23_LogJoins.j1 kj3 l0 a1 l2 t285 true))) else (none)) else (none)) else (watchmanlaw23_LogJoins.j1 kj3 l0 a1 l2 t285 true)) else ((watchmanlaw23_joined.f kj3).bind fun t289 => (if t289 = true then (if a1 < 0 then ((watchmanref01_Texts.f kj3 t285 l0).bind fun t290 => (some t290)) else (if a1 > (l0.length : Int) then ((watchmanref01_Texts.f kj3 t285 l0).bind fun t291 => (some t291)) else (none))) else (none)))) = some r := H
        have A9 := Aside0.mk A90
        clear A90
        by_cases c10 : t288 = true
        · subst c10
          have H1 : (if (t285.length : Int) = (wrap64 (a1 + (l2.length : Int))) then (if 0 ≤ a1 then (if a1 ≤ (l0.length : Int) then ((log_Front.f kj3 (l0.take (a1 : Int).toNat) t285).bind fun t297 => (if t297 = true then (if a1 ≤ (t285.length : Int) then ((watchmanref01_Texts.f kj3 (t285.drop (a1 : Int).toNat) l2).bind fun t302 => (watchmanlaw23_LogJoins.j1 kj3 l0 a1 l2 t285 (!t302))) else (none)) else (watchmanlaw23_LogJoins.j1 kj3 l0 a1 l2 t285 true))) else (none)) else (none)) else (watchmanlaw23_LogJoins.j1 kj3 l0 a1 l2 t285 true)) = some r := by rw [if_pos rfl] at H; exact H
          clear H
          have H := H1
          clear H1
          have HC11 := Aside0.mk H
          clear H
          go_upto_region 6 with (first | ((with_reducible refine gate_callee (f := 13) rfl ?_); refine goesL_ (some 25) rfl rfl Try.func13 (by kernel_rfl) rfl #[.slice A0 l0.length c0, .int .i64 a1, .slice A2 l2.length c2] rfl (by (try simp only [List.map_toArray, List.map_cons, List.map_nil]); first | done | rfl | (simp only [List.length_drop, List.length_take]; rfl)) ?_; (with_reducible refine (log_Join.calls kj3 (fun k_ => ((P0_ k_ ∨ P2_ k_) ∨ w.heap.size ≤ k_)) _ _ l0 a1 (fun k_ => ((P0_ k_ ∨ P2_ k_) ∨ w.heap.size ≤ k_)) _ _ l2 t285 true _ ?side1 ?side2 A9.out).mono ?_); (case side1 => exact HO_0.out); (case side2 => exact HO_2.out); rintro e w12 ⟨v286, rfl, ho0, hb⟩; refine ⟨_, rfl, ?_⟩; have n0_ := Aside0.mk (Kd.V_elder' (by (with_reducible repeat (first | apply Kd.V_alloc | apply Kd.V_drewN | apply Kd.V_drew)); exact HO_0.out) (Kd.R_base ho0) hb); have n1_ := Aside0.mk (Kd.V_elder' (by (with_reducible repeat (first | apply Kd.V_alloc | apply Kd.V_drewN | apply Kd.V_drew)); exact HO_2.out) (Kd.R_base ho0) hb); have n2_ := Aside0.mk (Kd.R_lower (Kd.R_newM (M := fun k_ => (w.heap.size ≤ k_)) (Kd.R_mono (ok' := fun k_ => True) ho0 (fun _ hk_ => trivial)) (below_size (by repeat (first | (with_reducible first | exact HB.out | apply below_alloc | apply pw_below_drewN | apply below_drew1) | exact HB.out))) (fun k_ h_ => h_)) (below_size (by repeat (first | (with_reducible first | exact HB.out | apply below_alloc | apply pw_below_drewN | apply below_drew1) | exact HB.out)))); have n3_ := Aside0.mk (below_step (by repeat (first | (with_reducible first | exact HB.out | apply below_alloc | apply pw_below_drewN | apply below_drew1) | exact HB.out)) hb); clear HO_0; clear HO_2; clear HB; have HO_0 := n0_; have HO_2 := n1_; have HO287 := n2_; have HB := n3_; clear n0_ n1_ n2_ n3_; (try clear hb); (try clear hb2); (try clear hk); (try clear hi); (try clear ho0)))
          (try simp only [Act.put, List.setIfInBounds_toArray, List.set_cons_zero, List.set_cons_succ])
          go_cut [68] (fun v68 wc => ∃ (kq : Nat) (x68_10 : Bool), v68 = .bool x68_10 ∧ Aside0 (watchmanlaw23_LogJoins.j1 kq l0 a1 l2 t285 x68_10 = some r) ∧ Aside0 (kq ≤ kj3) ∧ Aside0 (Kd.V Kd.string 9 wc w.heap.size (fun k_ => ((P0_ k_ ∨ P2_ k_) ∨ w.heap.size ≤ k_) ∧ some k_ ≠ (v286 : Value).ownBlock) (.slice A0 l0.length c0) l0) ∧ Aside0 (Kd.V Kd.string 9 wc w.heap.size (fun k_ => ((P0_ k_ ∨ P2_ k_) ∨ w.heap.size ≤ k_) ∧ some k_ ≠ (v286 : Value).ownBlock) (.slice A2 l2.length c2) l2) ∧ Aside0 (Kd.R Kd.string 9 wc w.heap.size (fun k_ => (w.heap.size ≤ k_)) v286 t285) ∧ Aside0 (Below w.heap.size w wc))
          case first =>
            have H := HC11.out
            clear HC11
            by_cases c13 : (t285.length : Int) = (wrap64 (a1 + (l2.length : Int)))
            · rw [if_pos c13] at H
              have c13b0 : ((t285.length : Int) == (wrap64 (a1 + (l2.length : Int)))) = true := beq_iff_eq.mpr c13
              have c13b1 : ((t285.length : Int) != (wrap64 (a1 + (l2.length : Int)))) = false := bne_eq_false_iff_eq.mpr c13
              clear c13
              (first | rw [c13b0] | (simp only [i64_w, i32_w]; rw [c13b0]) | skip)
              by_cases c14 : 0 ≤ a1
              · rw [if_pos c14] at H
                have c14b0 := eq_true c14
                have c14b1 : decide (0 ≤ a1) = true := decide_eq_true c14
                clear c14
                by_cases c15 : a1 ≤ (l0.length : Int)
                · rw [if_pos c15] at H
                  have c15b0 := eq_true c15
                  have c15b1 : decide (a1 ≤ (l0.length : Int)) = true := decide_eq_true c15
                  clear c15
                  obtain ⟨y292, hy292⟩ : ∃ y_ : List ByteArray, y_ = (l0.take (a1 : Int).toNat) := ⟨_, rfl⟩
                  replace H : ((log_Front.f kj3 y292 t285).bind fun t297 => (if t297 = true then (if a1 ≤ (t285.length : Int) then ((watchmanref01_Texts.f kj3 (t285.drop (a1 : Int).toNat) l2).bind fun t302 => (watchmanlaw23_LogJoins.j1 kj3 l0 a1 l2 t285 (!t302))) else (none)) else (watchmanlaw23_LogJoins.j1 kj3 l0 a1 l2 t285 true))) = some r := by first | (rw [hy292]; with_reducible exact H) | (have H2_ := (Option.bind_some _ _).symm.trans H; rw [hy292]; with_reducible exact H2_) | (have H2_ := (Option.bind_some _ _).symm.trans H; with_reducible exact H2_) | with_reducible exact H | (rw [hy292]; exact H) | exact H
                  have Ny292 := Aside0.mk hy292
                  clear hy292
                  replace H := Option.bind_eq_some_iff.mp H
                  obtain ⟨t297, A160, H⟩ := H
                  replace H : (if t297 = true then (if a1 ≤ (t285.length : Int) then ((watchmanref01_Texts.f kj3 (t285.drop (a1 : Int).toNat) l2).bind fun t302 => (watchmanlaw23_LogJoins.j1 kj3 l0 a1 l2 t285 (!t302))) else (none)) else (watchmanlaw23_LogJoins.j1 kj3 l0 a1 l2 t285 true)) = some r := H
                  have A16 := Aside0.mk A160
                  clear A160
                  by_cases c17 : t297 = true
                  · subst c17
                    have H1 : (if a1 ≤ (t285.length : Int) then ((watchmanref01_Texts.f kj3 (t285.drop (a1 : Int).toNat) l2).bind fun t302 => (watchmanlaw23_LogJoins.j1 kj3 l0 a1 l2 t285 (!t302))) else (none)) = some r := by rw [if_pos rfl] at H; exact H
                    clear H
                    have H := H1
                    clear H1
                    have c18b0 := eq_true (of_decide_eq_true (by first | (with_reducible assumption) | assumption) : 0 ≤ a1)
                    by_cases c19 : a1 ≤ (t285.length : Int)
                    · rw [if_pos c19] at H
                      have c19b0 := eq_true c19
                      have c19b1 : decide (a1 ≤ (t285.length : Int)) = true := decide_eq_true c19
                      clear c19
                      obtain ⟨y298, hy298⟩ : ∃ y_ : List ByteArray, y_ = (t285.drop (a1 : Int).toNat) := ⟨_, rfl⟩
                      replace H : ((watchmanref01_Texts.f kj3 y298 l2).bind fun t302 => (watchmanlaw23_LogJoins.j1 kj3 l0 a1 l2 t285 (!t302))) = some r := by first | (rw [hy298]; with_reducible exact H) | (have H2_ := (Option.bind_some _ _).symm.trans H; rw [hy298]; with_reducible exact H2_) | (have H2_ := (Option.bind_some _ _).symm.trans H; with_reducible exact H2_) | with_reducible exact H | (rw [hy298]; exact H) | exact H
                      have Ny298 := Aside0.mk hy298
                      clear hy298
                      replace H := Option.bind_eq_some_iff.mp H
                      obtain ⟨t302, A200, H⟩ := H
                      replace H : (watchmanlaw23_LogJoins.j1 kj3 l0 a1 l2 t285 (!t302)) = some r := H
                      have A20 := Aside0.mk A200
                      clear A200
                      have H' := Aside0.mk H
                      clear H
                      obtain ⟨Ao21, co21, eo21⟩ := Kd.R_slice HO287.out
                      subst eo21
                      have q22 : (a1 : Int) ≤ ((l0.length : Int) : Int) := of_decide_eq_true (by first | (with_reducible assumption) | assumption)
                      obtain ⟨i022, hi022, _, hsz22, _⟩ := info_parts info9
                      have hroom22 : l0.length ≤ c0 := (Kd.V_reads' HO_0.out).2.1
                      have hC22 : Kd.F Kd.string _ _ A0 l0.length l0 := (Kd.V_at (base := w.heap.size) HO_0.out).2.2
                      have hcut22 := cut_to (P := Try.prog) 22 9 .i64 Try.underlying22 hi022 A0 l0.length c0 a1 (of_decide_eq_true (by first | (with_reducible assumption) | assumption)) q22 hroom22
                      have hr22 := Kd.F_take (m := (a1 : Int).toNat) hC22 (by omega)
                      have hy22 : y292.length = (a1 : Int).toNat := (by rw [Ny292.out, List.length_take]; omega)
                      rw [← Ny292.out] at hr22
                      rw [← hy22] at hcut22
                      have HO296 := Aside0.mk (show Kd.V Kd.string 9 _ w.heap.size _ (.slice A0 y292.length c0) y292 from Kd.V_mk (by omega) hr22)
                      have HC296 := Aside0.mk (show y292.length ≤ c0 from by omega)
                      clear hr22 hC22 hroom22 hi022 hsz22
                      have KY22 := Aside0.mk hy22
                      clear hy22
                      replace q22 := eq_true q22
                      go_wp2_with (first | (go_at_call 10; (with_reducible refine (log_Front.calls kj3 (fun k_ => (((P0_ k_ ∨ P2_ k_) ∨ w.heap.size ≤ k_) ∧ some k_ ≠ (.slice Ao21 t285.length co21 : Value).ownBlock)) _ _ y292 (fun k_ => some k_ = (.slice Ao21 t285.length co21 : Value).ownBlock) _ _ t285 true _ ?side1 ?side2 A16.out).mono ?_); (case side1 => exact HO296.out); (case side2 => exact Kd.R_V (Kd.R_tight rfl (HO287.out))); rintro e w23 ⟨rfl, hb⟩; have n0_ := Aside0.mk (Kd.V_below (by (with_reducible repeat (first | apply Kd.V_alloc | apply Kd.V_drewN | apply Kd.V_drew)); exact HO_0.out) hb); have n1_ := Aside0.mk (Kd.V_below (by (with_reducible repeat (first | apply Kd.V_alloc | apply Kd.V_drewN | apply Kd.V_drew)); exact HO_2.out) hb); have n2_ := Aside0.mk (Kd.R_below (by (with_reducible repeat (first | apply Kd.R_alloc | apply Kd.R_drewN | apply Kd.R_drew)); exact HO287.out) hb); have n3_ := Aside0.mk (Kd.V_below (by (with_reducible repeat (first | apply Kd.V_alloc | apply Kd.V_drewN | apply Kd.V_drew)); exact HO296.out) hb); have n4_ := Aside0.mk (below_step (by repeat (first | (with_reducible first | exact HB.out | apply below_alloc | apply pw_below_drewN | apply below_drew1) | exact HB.out)) hb); clear HO_0; clear HO_2; clear HO287; clear HO296; clear HB; have HO_0 := n0_; have HO_2 := n1_; have HO287 := n2_; have HO296 := n3_; have HB := n4_; clear n0_ n1_ n2_ n3_ n4_; (try clear hb); (try clear hb2); (try clear hk); (try clear hi); have q24 : (a1 : Int) ≤ ((t285.length : Int) : Int) := of_decide_eq_true (by first | (with_reducible assumption) | assumption); obtain ⟨i024, hi024, _, hsz24, _⟩ := info_parts info9; have hroom24 : t285.length ≤ co21 := (Kd.R_reads' HO287.out).2.1; have hC24 : Kd.C Kd.string _ Ao21 t285.length t285 := (Kd.R_reads' HO287.out).2.2; have q024 : (0 : Int) ≤ (a1 : Int) := of_decide_eq_true (by first | (with_reducible assumption) | assumption); have hcut24 := cut_from (P := Try.prog) 22 9 .i64 Try.underlying22 hi024 1 hsz24 Ao21 t285.length co21 a1 q024 q24; have hr24 := Kd.C_drop (m := (a1 : Int).toNat) (c := co21) hC24 (by omega) hroom24; obtain ⟨A24, hA24⟩ : ∃ A1, A1 = (if co21 = (a1 : Int).toNat then Ao21 else (Ao21 : Option Addr).map (·.add ((a1 : Int).toNat * 1))) := ⟨_, rfl⟩; obtain ⟨c24, hc24⟩ : ∃ c1, c1 = co21 - (a1 : Int).toNat := ⟨_, rfl⟩; have hy24 : y298.length = t285.length - (a1 : Int).toNat := (by rw [Ny298.out, List.length_drop] <;> omega); rw [show (t285).drop (a1 : Int).toNat = y298 from Ny298.out.symm] at hr24; replace hr24 : Kd.C Kd.string _ A24 y298.length y298 := (by rw [hA24]; exact hr24); rw [← hy24, ← hA24, ← hc24] at hcut24; have HR301 := Aside0.mk hr24; have HC301 := Aside0.mk (show y298.length ≤ c24 from by rw [hy24, hc24]; exact Nat.sub_le_sub_right hroom24 _); clear hr24 hC24 hroom24 hi024 hsz24 hc24; have KY24 := Aside0.mk hy24; have KA24 := Aside0.mk hA24; clear hy24 hA24; have KL24 := Aside0.mk (show (a1 : Int).toNat ≤ t285.length from by omega); replace q24 := eq_true q24) | (go_at_call 12; (with_reducible refine (watchmanref01_Texts.calls kj3 _ _ y298 _ _ l2 t302 _ ?side1 ?side2 ?side3 ?side4 A20.out).mono ?_); (case side1 => repeat (first | exact (by repeat (first | (with_reducible exact HR301.out) | (with_reducible refine Kd.C_alloc ?_ _) | (with_reducible refine Kd.C_drewN ?_ _) | (with_reducible refine Kd.C_drew ?_) | exact HR301.out)) | (with_reducible refine Kd.C_alloc ?_ _) | (with_reducible refine Kd.C_drewN ?_ _) | (with_reducible refine Kd.C_drew ?_))); (case side2 => exact HC301.out); (case side3 => repeat (first | exact (Kd.V_reads' HO_2.out).2.2 | (with_reducible refine Kd.C_alloc ?_ _) | (with_reducible refine Kd.C_drewN ?_ _) | (with_reducible refine Kd.C_drew ?_))); (case side4 => exact (Kd.V_reads' HO_2.out).2.1); rintro e w25 ⟨rfl, hb⟩; have n0_ := Aside0.mk (Kd.V_below (by (with_reducible repeat (first | apply Kd.V_alloc | apply Kd.V_drewN | apply Kd.V_drew)); exact HO_0.out) hb); have n1_ := Aside0.mk (Kd.V_below (by (with_reducible repeat (first | apply Kd.V_alloc | apply Kd.V_drewN | apply Kd.V_drew)); exact HO_2.out) hb); have n2_ := Aside0.mk (Kd.R_below (by (with_reducible repeat (first | apply Kd.R_alloc | apply Kd.R_drewN | apply Kd.R_drew)); exact HO287.out) hb); have n3_ := Aside0.mk (Kd.V_below (by (with_reducible repeat (first | apply Kd.V_alloc | apply Kd.V_drewN | apply Kd.V_drew)); exact HO296.out) hb); have n4_ := Aside0.mk (Kd.C_below (by repeat (first | (with_reducible exact HR301.out) | (with_reducible refine Kd.C_alloc ?_ _) | (with_reducible refine Kd.C_drewN ?_ _) | (with_reducible refine Kd.C_drew ?_) | exact HR301.out)) hb); have n5_ := Aside0.mk (below_step (by repeat (first | (with_reducible first | exact HB.out | apply below_alloc | apply pw_below_drewN | apply below_drew1) | exact HB.out)) hb); clear HO_0; clear HO_2; clear HO287; clear HO296; clear HR301; clear HB; have HO_0 := n0_; have HO_2 := n1_; have HO287 := n2_; have HO296 := n3_; have HR301 := n4_; have HB := n5_; clear n0_ n1_ n2_ n3_ n4_ n5_; (try clear hb); (try clear hb2); (try clear hk); (try clear hi)))
                      go_meet
                      case rel => exact ⟨_, (!t302), (by first | rfl | (simp; done) | (simp [*]; done)), H', ⟨by have := HJ3.out; first | omega | exact Nat.le_refl _⟩, ⟨by (with_reducible repeat (first | apply Kd.V_alloc | apply Kd.V_drewN | apply Kd.V_drew)); exact HO_0.out⟩, ⟨by (with_reducible repeat (first | apply Kd.V_alloc | apply Kd.V_drewN | apply Kd.V_drew)); exact HO_2.out⟩, ⟨by (with_reducible repeat (first | apply Kd.R_alloc | apply Kd.R_drewN | apply Kd.R_drew)); exact Kd.R_mono HO287.out (fun _ hk => hk.1)⟩, ⟨by repeat (first | (with_reducible first | exact HB.out | apply below_alloc | apply pw_below_drewN | apply below_drew1) | exact HB.out)⟩⟩
                    · rw [if_neg c19] at H
                      exact absurd H (by simp)
                  · replace c17 := Bool.eq_false_iff.mpr c17
                    subst c17
                    have H1 : (watchmanlaw23_LogJoins.j1 kj3 l0 a1 l2 t285 true) = some r := by rw [if_neg (show ¬ (false = true) by decide)] at H; exact H
                    clear H
                    have H := H1
                    clear H1
                    have H' := Aside0.mk H
                    clear H
                    obtain ⟨Ao26, co26, eo26⟩ := Kd.R_slice HO287.out
                    subst eo26
                    have q27 : (a1 : Int) ≤ ((l0.length : Int) : Int) := of_decide_eq_true (by first | (with_reducible assumption) | assumption)
                    obtain ⟨i027, hi027, _, hsz27, _⟩ := info_parts info9
                    have hroom27 : l0.length ≤ c0 := (Kd.V_reads' HO_0.out).2.1
                    have hC27 : Kd.F Kd.string _ _ A0 l0.length l0 := (Kd.V_at (base := w.heap.size) HO_0.out).2.2
                    have hcut27 := cut_to (P := Try.prog) 22 9 .i64 Try.underlying22 hi027 A0 l0.length c0 a1 (of_decide_eq_true (by first | (with_reducible assumption) | assumption)) q27 hroom27
                    have hr27 := Kd.F_take (m := (a1 : Int).toNat) hC27 (by omega)
                    have hy27 : y292.length = (a1 : Int).toNat := (by rw [Ny292.out, List.length_take]; omega)
                    rw [← Ny292.out] at hr27
                    rw [← hy27] at hcut27
                    have HO296 := Aside0.mk (show Kd.V Kd.string 9 _ w.heap.size _ (.slice A0 y292.length c0) y292 from Kd.V_mk (by omega) hr27)
                    have HC296 := Aside0.mk (show y292.length ≤ c0 from by omega)
                    clear hr27 hC27 hroom27 hi027 hsz27
                    have KY27 := Aside0.mk hy27
                    clear hy27
                    replace q27 := eq_true q27
                    go_wp2_with (first | (go_at_call 10; (with_reducible refine (log_Front.calls kj3 (fun k_ => (((P0_ k_ ∨ P2_ k_) ∨ w.heap.size ≤ k_) ∧ some k_ ≠ (.slice Ao26 t285.length co26 : Value).ownBlock)) _ _ y292 (fun k_ => some k_ = (.slice Ao26 t285.length co26 : Value).ownBlock) _ _ t285 false _ ?side1 ?side2 A16.out).mono ?_); (case side1 => exact HO296.out); (case side2 => exact Kd.R_V (Kd.R_tight rfl (HO287.out))); rintro e w28 ⟨rfl, hb⟩; have n0_ := Aside0.mk (Kd.V_below (by (with_reducible repeat (first | apply Kd.V_alloc | apply Kd.V_drewN | apply Kd.V_drew)); exact HO_0.out) hb); have n1_ := Aside0.mk (Kd.V_below (by (with_reducible repeat (first | apply Kd.V_alloc | apply Kd.V_drewN | apply Kd.V_drew)); exact HO_2.out) hb); have n2_ := Aside0.mk (Kd.R_below (by (with_reducible repeat (first | apply Kd.R_alloc | apply Kd.R_drewN | apply Kd.R_drew)); exact HO287.out) hb); have n3_ := Aside0.mk (Kd.V_below (by (with_reducible repeat (first | apply Kd.V_alloc | apply Kd.V_drewN | apply Kd.V_drew)); exact HO296.out) hb); have n4_ := Aside0.mk (below_step (by repeat (first | (with_reducible first | exact HB.out | apply below_alloc | apply pw_below_drewN | apply below_drew1) | exact HB.out)) hb); clear HO_0; clear HO_2; clear HO287; clear HO296; clear HB; have HO_0 := n0_; have HO_2 := n1_; have HO287 := n2_; have HO296 := n3_; have HB := n4_; clear n0_ n1_ n2_ n3_ n4_; (try clear hb); (try clear hb2); (try clear hk); (try clear hi)))
                    go_meet
                    case rel => exact ⟨_, (true), (by first | rfl | (simp; done) | (simp [*]; done)), H', ⟨by have := HJ3.out; first | omega | exact Nat.le_refl _⟩, ⟨by (with_reducible repeat (first | apply Kd.V_alloc | apply Kd.V_drewN | apply Kd.V_drew)); exact HO_0.out⟩, ⟨by (with_reducible repeat (first | apply Kd.V_alloc | apply Kd.V_drewN | apply Kd.V_drew)); exact HO_2.out⟩, ⟨by (with_reducible repeat (first | apply Kd.R_alloc | apply Kd.R_drewN | apply Kd.R_drew)); exact Kd.R_mono HO287.out (fun _ hk => hk.1)⟩, ⟨by repeat (first | (with_reducible first | exact HB.out | apply below_alloc | apply pw_below_drewN | apply below_drew1) | exact HB.out)⟩⟩
                · rw [if_neg c15] at H
                  exact absurd H (by simp)
              · rw [if_neg c14] at H
                exact absurd H (by simp)
            · rw [if_neg c13] at H
              have c13b0 : ((t285.length : Int) == (wrap64 (a1 + (l2.length : Int)))) = false := beq_eq_false_iff_ne.mpr c13
              have c13b1 : ((t285.length : Int) != (wrap64 (a1 + (l2.length : Int)))) = true := bne_iff_ne.mpr c13
              (first | rw [c13b0] | (simp only [i64_w, i32_w]; rw [c13b0]) | skip)
              have H' := Aside0.mk H
              clear H
              obtain ⟨Ao29, co29, eo29⟩ := Kd.R_slice HO287.out
              subst eo29
              go_wp2
              go_meet
              case rel => exact ⟨_, (true), (by first | rfl | (simp; done) | (simp [*]; done)), H', ⟨by have := HJ3.out; first | omega | exact Nat.le_refl _⟩, ⟨by (with_reducible repeat (first | apply Kd.V_alloc | apply Kd.V_drewN | apply Kd.V_drew)); exact HO_0.out⟩, ⟨by (with_reducible repeat (first | apply Kd.V_alloc | apply Kd.V_drewN | apply Kd.V_drew)); exact HO_2.out⟩, ⟨by (with_reducible repeat (first | apply Kd.R_alloc | apply Kd.R_drewN | apply Kd.R_drew)); exact Kd.R_mono HO287.out (fun _ hk => hk.1)⟩, ⟨by repeat (first | (with_reducible first | exact HB.out | apply below_alloc | apply pw_below_drewN | apply below_drew1) | exact HB.out)⟩⟩
          case rest =>
            clear HC11
            try clear c1
            try clear c2
            try clear p2
            try clear q2
            try clear c4
            try clear c6
            try clear p6
            try clear c8
            try clear c10
            try clear c13
            try clear c13b0
            try clear c13b1
            try clear c14
            try clear c14b0
            try clear c14b1
            try clear c15
            try clear c15b0
            try clear c15b1
            try clear c17
            try clear c18
            try clear c18b0
            try clear c19
            try clear c19b0
            try clear c19b1
            try clear q22
            try clear c24
            try clear q24
            try clear q27
            try clear p2
            try clear q024
            try clear q22
            try clear q24
            try clear q27
            obtain ⟨kq, x68_10, rfl, HA, HJ10, HO_0, HO_2, HO_7, HB⟩ := hcut
            cases kq with
            | zero => exact absurd HA.out (by simp [watchmanlaw23_LogJoins.j1])
            | succ kj10 =>
              have H := HA.out
              clear HA
              simp only [watchmanlaw23_LogJoins.j1] at H
              by_cases c30 : x68_10 = true
              · subst c30
                have H1 : (none) = some r := by rw [if_pos rfl] at H; exact H
                clear H
                have H := H1
                clear H1
                exact absurd H (by simp)
              · replace c30 := Bool.eq_false_iff.mpr c30
                subst c30
                have H1 : ((log_Since.f l0 a1).bind fun t303 => ((log_Join.f kj10 l0 a1 t303).bind fun bt306 => (if 0 ≤ a1 then (if a1 ≤ (l0.length : Int) then ((watchmanref01_OwnTexts.f (l0.take (a1 : Int).toNat)).bind fun t315 => (watchmanlaw23_LogJoins.l0 kj10 l0 l2 t285 bt306.1 bt306.2 t315 0)) else (none)) else (none)))) = some r := by rw [if_neg (show ¬ (false = true) by decide)] at H; exact H
                clear H
                have H := H1
                clear H1
                replace H := Option.bind_eq_some_iff.mp H
                obtain ⟨t303, A310, H⟩ := H
                replace H : ((log_Join.f kj10 l0 a1 t303).bind fun bt306 => (if 0 ≤ a1 then (if a1 ≤ (l0.length : Int) then ((watchmanref01_OwnTexts.f (l0.take (a1 : Int).toNat)).bind fun t315 => (watchmanlaw23_LogJoins.l0 kj10 l0 l2 t285 bt306.1 bt306.2 t315 0)) else (none)) else (none))) = some r := H
                have A31 := Aside0.mk A310
                clear A310
                replace H := Option.bind_eq_some_iff.mp H
                obtain ⟨⟨t306, t309⟩, A320, H⟩ := H
                replace H : (if 0 ≤ a1 then (if a1 ≤ (l0.length : Int) then ((watchmanref01_OwnTexts.f (l0.take (a1 : Int).toNat)).bind fun t315 => (watchmanlaw23_LogJoins.l0 kj10 l0 l2 t285 t306 t309 t315 0)) else (none)) else (none)) = some r := H
                have A32 := Aside0.mk A320
                clear A320
                by_cases c33 : 0 ≤ a1
                · rw [if_pos c33] at H
                  have c33b0 := eq_true c33
                  have c33b1 : decide (0 ≤ a1) = true := decide_eq_true c33
                  clear c33
                  by_cases c34 : a1 ≤ (l0.length : Int)
                  · rw [if_pos c34] at H
                    have c34b0 := eq_true c34
                    have c34b1 : decide (a1 ≤ (l0.length : Int)) = true := decide_eq_true c34
                    clear c34
                    obtain ⟨y310, hy310⟩ : ∃ y_ : List ByteArray, y_ = (l0.take (a1 : Int).toNat) := ⟨_, rfl⟩
                    replace H : ((watchmanref01_OwnTexts.f y310).bind fun t315 => (watchmanlaw23_LogJoins.l0 kj10 l0 l2 t285 t306 t309 t315 0)) = some r := by first | (rw [hy310]; with_reducible exact H) | (have H2_ := (Option.bind_some _ _).symm.trans H; rw [hy310]; with_reducible exact H2_) | (have H2_ := (Option.bind_some _ _).symm.trans H; with_reducible exact H2_) | with_reducible exact H | (rw [hy310]; exact H) | exact H
                    have Ny310 := Aside0.mk hy310
                    clear hy310
                    replace H := Option.bind_eq_some_iff.mp H
                    obtain ⟨t315, A350, H⟩ := H
                    replace H : (watchmanlaw23_LogJoins.l0 kj10 l0 l2 t285 t306 t309 t315 0) = some r := H
                    have A35 := Aside0.mk A350
                    clear A350
                    have H' := Aside0.mk H
                    clear H
                    go_wp2_with (first | ((with_reducible refine gate_callee (f := 14) rfl ?_); refine goesL_ (some 74) rfl rfl Try.func14 (by kernel_rfl) rfl #[.slice A0 l0.length c0, .int .i64 a1] rfl (by (try simp only [List.map_toArray, List.map_cons, List.map_nil]); first | done | rfl | (simp only [List.length_drop, List.length_take]; rfl)) ?_; (with_reducible refine (log_Since.calls _ _ l0 a1 t303 _ ?side1 ?side2 A31.out).mono ?_); (case side1 => repeat (first | exact (Kd.V_reads' HO_0.out).2.2 | (with_reducible refine Kd.C_alloc ?_ _) | (with_reducible refine Kd.C_drewN ?_ _) | (with_reducible refine Kd.C_drew ?_))); (case side2 => exact (Kd.V_reads' HO_0.out).2.1); rintro e w36 ⟨v304, rfl, ho0, hb⟩; refine ⟨_, rfl, ?_⟩; have n0_ := Aside0.mk (Kd.V_elder' (by (with_reducible repeat (first | apply Kd.V_alloc | apply Kd.V_drewN | apply Kd.V_drew)); exact HO_0.out) (Kd.R_base ho0) hb); have n1_ := Aside0.mk (Kd.V_elder' (by (with_reducible repeat (first | apply Kd.V_alloc | apply Kd.V_drewN | apply Kd.V_drew)); exact HO_2.out) (Kd.R_base ho0) hb); have n2_ := Aside0.mk (Kd.R_elder' (by (with_reducible repeat (first | apply Kd.R_alloc | apply Kd.R_drewN | apply Kd.R_drew)); exact HO_7.out) (Kd.R_base ho0) hb); have n3_ := Aside0.mk (Kd.R_lower (Kd.R_new' (Kd.R_newM (M := fun k_ => (w.heap.size ≤ k_)) ho0 (below_size (by repeat (first | (with_reducible first | exact HB.out | apply below_alloc | apply pw_below_drewN | apply below_drew1) | exact HB.out))) (fun k_ h_ => h_)) (Kd.R_lt (by (with_reducible repeat (first | apply Kd.R_alloc | apply Kd.R_drewN | apply Kd.R_drew)); exact HO_7.out))) (below_size (by repeat (first | (with_reducible first | exact HB.out | apply below_alloc | apply pw_below_drewN | apply below_drew1) | exact HB.out)))); have n4_ := Aside0.mk (below_step (by repeat (first | (with_reducible first | exact HB.out | apply below_alloc | apply pw_below_drewN | apply below_drew1) | exact HB.out)) hb); clear HO_0; clear HO_2; clear HO_7; clear HB; have HO_0 := n0_; have HO_2 := n1_; have HO_7 := n2_; have HO305 := n3_; have HB := n4_; clear n0_ n1_ n2_ n3_ n4_; (try clear hb); (try clear hb2); (try clear hk); (try clear hi); (try clear ho0); obtain ⟨Ao37, co37, eo37⟩ := Kd.R_slice HO305.out; subst eo37) | ((with_reducible refine gate_callee (f := 13) rfl ?_); refine goesL_ (some 75) rfl rfl Try.func13 (by kernel_rfl) rfl #[.slice A0 l0.length c0, .int .i64 a1, .slice Ao37 t303.length co37] rfl (by (try simp only [List.map_toArray, List.map_cons, List.map_nil]); first | done | rfl | (simp only [List.length_drop, List.length_take]; rfl)) ?_; (with_reducible refine (log_Join.calls kj10 (fun k_ => ((((P0_ k_ ∨ P2_ k_) ∨ w.heap.size ≤ k_) ∧ some k_ ≠ (v286 : Value).ownBlock) ∧ some k_ ≠ (.slice Ao37 t303.length co37 : Value).ownBlock)) _ _ l0 a1 (fun k_ => some k_ = (.slice Ao37 t303.length co37 : Value).ownBlock) _ _ t303 t306 t309 _ ?side1 ?side2 A32.out).mono ?_); (case side1 => exact HO_0.out); (case side2 => exact Kd.R_V (Kd.R_tight rfl (HO305.out))); rintro e w38 ⟨v307, rfl, ho0, hb⟩; refine ⟨_, rfl, ?_⟩; have n0_ := Aside0.mk (Kd.V_elder' (by (with_reducible repeat (first | apply Kd.V_alloc | apply Kd.V_drewN | apply Kd.V_drew)); exact HO_0.out) (Kd.R_base ho0) hb); have n1_ := Aside0.mk (Kd.V_elder' (by (with_reducible repeat (first | apply Kd.V_alloc | apply Kd.V_drewN | apply Kd.V_drew)); exact HO_2.out) (Kd.R_base ho0) hb); have n2_ := Aside0.mk (Kd.R_elder' (by (with_reducible repeat (first | apply Kd.R_alloc | apply Kd.R_drewN | apply Kd.R_drew)); exact HO_7.out) (Kd.R_base ho0) hb); have n3_ := Aside0.mk (Kd.R_elder' (by (with_reducible repeat (first | apply Kd.R_alloc | apply Kd.R_drewN | apply Kd.R_drew)); exact HO305.out) (Kd.R_base ho0) hb); have n4_ := Aside0.mk (Kd.R_lower (Kd.R_new' (Kd.R_new' (Kd.R_newM (M := fun k_ => (w.heap.size ≤ k_)) (Kd.R_mono (ok' := fun k_ => True) ho0 (fun _ hk_ => trivial)) (below_size (by repeat (first | (with_reducible first | exact HB.out | apply below_alloc | apply pw_below_drewN | apply below_drew1) | exact HB.out))) (fun k_ h_ => h_)) (Kd.R_lt (by (with_reducible repeat (first | apply Kd.R_alloc | apply Kd.R_drewN | apply Kd.R_drew)); exact HO_7.out))) (Kd.R_lt (by (with_reducible repeat (first | apply Kd.R_alloc | apply Kd.R_drewN | apply Kd.R_drew)); exact HO305.out))) (below_size (by repeat (first | (with_reducible first | exact HB.out | apply below_alloc | apply pw_below_drewN | apply below_drew1) | exact HB.out)))); have n5_ := Aside0.mk (below_step (by repeat (first | (with_reducible first | exact HB.out | apply below_alloc | apply pw_below_drewN | apply below_drew1) | exact HB.out)) hb); clear HO_0; clear HO_2; clear HO_7; clear HO305; clear HB; have HO_0 := n0_; have HO_2 := n1_; have HO_7 := n2_; have HO305 := n3_; have HO308 := n4_; have HB := n5_; clear n0_ n1_ n2_ n3_ n4_ n5_; (try clear hb); (try clear hb2); (try clear hk); (try clear hi); (try clear ho0); have q39 : (a1 : Int) ≤ ((l0.length : Int) : Int) := of_decide_eq_true (by first | (with_reducible assumption) | assumption); obtain ⟨i039, hi039, _, hsz39, _⟩ := info_parts info9; have hroom39 : l0.length ≤ c0 := (Kd.V_reads' HO_0.out).2.1; have hC39 : Kd.F Kd.string _ _ A0 l0.length l0 := (Kd.V_at (base := w.heap.size) HO_0.out).2.2; have hcut39 := cut_to (P := Try.prog) 22 9 .i64 Try.underlying22 hi039 A0 l0.length c0 a1 (of_decide_eq_true (by first | (with_reducible assumption) | assumption)) q39 hroom39; have hr39 := Kd.F_take (m := (a1 : Int).toNat) hC39 (by omega); have hy39 : y310.length = (a1 : Int).toNat := (by rw [Ny310.out, List.length_take]; omega); rw [← Ny310.out] at hr39; rw [← hy39] at hcut39; have HO314 := Aside0.mk (show Kd.V Kd.string 9 _ w.heap.size _ (.slice A0 y310.length c0) y310 from Kd.V_mk (by omega) hr39); have HC314 := Aside0.mk (show y310.length ≤ c0 from by omega); clear hr39 hC39 hroom39 hi039 hsz39; have KY39 := Aside0.mk hy39; clear hy39; replace q39 := eq_true q39) | ((with_reducible refine gate_callee (f := 15) rfl ?_); refine goesL_ (some 81) rfl rfl Try.func15 (by kernel_rfl) rfl #[.slice A0 y310.length c0] rfl (by (try simp only [List.map_toArray, List.map_cons, List.map_nil]); first | done | rfl | (simp only [List.length_drop, List.length_take]; rfl)) ?_; (with_reducible refine (watchmanref01_OwnTexts.calls _ _ y310 t315 _ ?side1 ?side2 A35.out).mono ?_); (case side1 => repeat (first | exact (Kd.V_reads' HO314.out).2.2 | (with_reducible refine Kd.C_alloc ?_ _) | (with_reducible refine Kd.C_drewN ?_ _) | (with_reducible refine Kd.C_drew ?_))); (case side2 => exact (Kd.V_reads' HO314.out).2.1); rintro e w40 ⟨v316, rfl, ho0, hb⟩; refine ⟨_, rfl, ?_⟩; have n0_ := Aside0.mk (Kd.V_elder' (by (with_reducible repeat (first | apply Kd.V_alloc | apply Kd.V_drewN | apply Kd.V_drew)); exact HO_0.out) (Kd.R_base ho0) hb); have n1_ := Aside0.mk (Kd.V_elder' (by (with_reducible repeat (first | apply Kd.V_alloc | apply Kd.V_drewN | apply Kd.V_drew)); exact HO_2.out) (Kd.R_base ho0) hb); have n2_ := Aside0.mk (Kd.R_elder' (by (with_reducible repeat (first | apply Kd.R_alloc | apply Kd.R_drewN | apply Kd.R_drew)); exact HO_7.out) (Kd.R_base ho0) hb); have n3_ := Aside0.mk (Kd.R_elder' (by (with_reducible repeat (first | apply Kd.R_alloc | apply Kd.R_drewN | apply Kd.R_drew)); exact HO305.out) (Kd.R_base ho0) hb); have n4_ := Aside0.mk (Kd.R_elder' (by (with_reducible repeat (first | apply Kd.R_alloc | apply Kd.R_drewN | apply Kd.R_drew)); exact HO308.out) (Kd.R_base ho0) hb); have n5_ := Aside0.mk (Kd.V_elder' (by (with_reducible repeat (first | apply Kd.V_alloc | apply Kd.V_drewN | apply Kd.V_drew)); exact HO314.out) (Kd.R_base ho0) hb); have n6_ := Aside0.mk (Kd.R_lower (Kd.R_new' (Kd.R_new' (Kd.R_new' (Kd.R_newM (M := fun k_ => (w.heap.size ≤ k_)) ho0 (below_size (by repeat (first | (with_reducible first | exact HB.out | apply below_alloc | apply pw_below_drewN | apply below_drew1) | exact HB.out))) (fun k_ h_ => h_)) (Kd.R_lt (by (with_reducible repeat (first | apply Kd.R_alloc | apply Kd.R_drewN | apply Kd.R_drew)); exact HO_7.out))) (Kd.R_lt (by (with_reducible repeat (first | apply Kd.R_alloc | apply Kd.R_drewN | apply Kd.R_drew)); exact HO305.out))) (Kd.R_lt (by (with_reducible repeat (first | apply Kd.R_alloc | apply Kd.R_drewN | apply Kd.R_drew)); exact HO308.out))) (below_size (by repeat (first | (with_reducible first | exact HB.out | apply below_alloc | apply pw_below_drewN | apply below_drew1) | exact HB.out)))); have n7_ := Aside0.mk (below_step (by repeat (first | (with_reducible first | exact HB.out | apply below_alloc | apply pw_below_drewN | apply below_drew1) | exact HB.out)) hb); clear HO_0; clear HO_2; clear HO_7; clear HO305; clear HO308; clear HO314; clear HB; have HO_0 := n0_; have HO_2 := n1_; have HO_7 := n2_; have HO305 := n3_; have HO308 := n4_; have HO314 := n5_; have HO317 := n6_; have HB := n7_; clear n0_ n1_ n2_ n3_ n4_ n5_ n6_ n7_; (try clear hb); (try clear hb2); (try clear hk); (try clear hi); (try clear ho0)))
                    go_loopg [11, 12] kj10 (fun kq v11 v12 w' => ∃ (x11_3 : List ByteArray) (x12_3 : Int), v12 = .int .i64 x12_3 ∧ Aside0 (watchmanlaw23_LogJoins.l0 kq l0 l2 t285 t306 t309 x11_3 x12_3 = some r) ∧ Aside0 (kq ≤ kj10) ∧ Aside0 (Kd.V Kd.string 9 w' w.heap.size (fun k_ => ((P0_ k_ ∨ P2_ k_) ∨ w.heap.size ≤ k_) ∧ some k_ ≠ (v286 : Value).ownBlock ∧ some k_ ≠ (v307 : Value).ownBlock ∧ some k_ ≠ (v11 : Value).ownBlock) (.slice A0 l0.length c0) l0) ∧ Aside0 (Kd.V Kd.string 9 w' w.heap.size (fun k_ => ((P0_ k_ ∨ P2_ k_) ∨ w.heap.size ≤ k_) ∧ some k_ ≠ (v286 : Value).ownBlock ∧ some k_ ≠ (v307 : Value).ownBlock ∧ some k_ ≠ (v11 : Value).ownBlock) (.slice A2 l2.length c2) l2) ∧ Aside0 (Kd.R Kd.string 9 w' w.heap.size (fun k_ => (w.heap.size ≤ k_) ∧ some k_ ≠ (v307 : Value).ownBlock ∧ some k_ ≠ (v11 : Value).ownBlock) v286 t285) ∧ Aside0 (Kd.R Kd.string 9 w' w.heap.size (fun k_ => (w.heap.size ≤ k_) ∧ some k_ ≠ (v286 : Value).ownBlock ∧ some k_ ≠ (v11 : Value).ownBlock) v307 t306) ∧ Aside0 (Kd.R Kd.string 9 w' w.heap.size (fun k_ => (w.heap.size ≤ k_) ∧ some k_ ≠ (v286 : Value).ownBlock ∧ some k_ ≠ (v307 : Value).ownBlock) v11 x11_3) ∧ Aside0 (Below w.heap.size w w'))
                    case atStart => exact ⟨(t315), (0), (by first | rfl | (simp; done) | (simp [*]; done)), H', ⟨Nat.le_refl _⟩, ⟨by (with_reducible repeat (first | apply Kd.V_alloc | apply Kd.V_drewN | apply Kd.V_drew)); exact Kd.V_mono HO_0.out (fun _ hk => ⟨hk.1.1.1.1, ⟨hk.1.1.1.2, ⟨hk.1.2, hk.2⟩⟩⟩)⟩, ⟨by (with_reducible repeat (first | apply Kd.V_alloc | apply Kd.V_drewN | apply Kd.V_drew)); exact Kd.V_mono HO_2.out (fun _ hk => ⟨hk.1.1.1.1, ⟨hk.1.1.1.2, ⟨hk.1.2, hk.2⟩⟩⟩)⟩, ⟨by (with_reducible repeat (first | apply Kd.R_alloc | apply Kd.R_drewN | apply Kd.R_drew)); exact Kd.R_mono HO_7.out (fun _ hk => ⟨hk.1.1.1, ⟨hk.1.2, hk.2⟩⟩)⟩, ⟨by (with_reducible repeat (first | apply Kd.R_alloc | apply Kd.R_drewN | apply Kd.R_drew)); exact Kd.R_mono HO308.out (fun _ hk => ⟨hk.1.1.1.1, ⟨hk.1.1.2, hk.2⟩⟩)⟩, ⟨by (with_reducible repeat (first | apply Kd.R_alloc | apply Kd.R_drewN | apply Kd.R_drew)); exact Kd.R_mono HO317.out (fun _ hk => ⟨hk.1.1.1.1, ⟨hk.1.1.2, hk.2⟩⟩)⟩, ⟨by repeat (first | (with_reducible first | exact HB.out | apply below_alloc | apply pw_below_drewN | apply below_drew1) | exact HB.out)⟩⟩
                    case round =>
                      clear H'
                      try clear c1
                      try clear c2
                      try clear p2
                      try clear q2
                      try clear c3
                      try clear q3
                      try clear c4
                      try clear c6
                      try clear p6
                      try clear c8
                      try clear c10
                      try clear c13
                      try clear c13b0
                      try clear c13b1
                      try clear c14
                      try clear c14b0
                      try clear c14b1
                      try clear c15
                      try clear c15b0
                      try clear c15b1
                      try clear c17
                      try clear c18
                      try clear c18b0
                      try clear c19
                      try clear c19b0
                      try clear c19b1
                      try clear q22
                      try clear c24
                      try clear q24
                      try clear q27
                      try clear c30
                      try clear c33
                      try clear c33b0
                      try clear c33b1
                      try clear c34
                      try clear c34b0
                      try clear c34b1
                      try clear q39
                      try clear p2
                      try clear p6
                      try clear q024
                      try clear q2
                      try clear q22
                      try clear q24
                      try clear q27
                      try clear q39
                      obtain ⟨x11_3, x12_3, rfl, HA, HK3, HO_0, HO_2, HO_7, HO_9, HO_11, HB⟩ := hrel
                      cases gk with
                      | zero => exact absurd HA.out (by simp [watchmanlaw23_LogJoins.l0])
                      | succ k3 =>
                        have H := HA.out
                        clear HA
                        simp only [watchmanlaw23_LogJoins.l0] at H
                        by_cases c41 : x12_3 < (l2.length : Int)
                        · rw [if_pos c41] at H
                          have c41b0 : decide (x12_3 < (l2.length : Int)) = true := decide_eq_true c41
                          clear c41
                          by_cases c42 : 0 ≤ x12_3
                          · rw [if_pos c42] at H
                            have c42b0 : decide (0 ≤ x12_3) = true := decide_eq_true c42
                            clear c42
                            replace H := Option.bind_eq_some_iff.mp H
                            obtain ⟨⟨t319, t320⟩, A430, H⟩ := H
                            replace H : (if t320 = true then (watchmanlaw23_LogJoins.l0 k3 l0 l2 t285 t306 t309 t319 (wrap64 (x12_3 + 1))) else (none)) = some r := H
                            have A43 := Aside0.mk A430
                            clear A430
                            by_cases c44 : t320 = true
                            · subst c44
                              have H1 : (watchmanlaw23_LogJoins.l0 k3 l0 l2 t285 t306 t309 t319 (wrap64 (x12_3 + 1))) = some r := by rw [if_pos rfl] at H; exact H
                              clear H
                              have H := H1
                              clear H1
                              have H' := Aside0.mk H
                              clear H
                              obtain ⟨Ao45, co45, eo45⟩ := Kd.R_slice HO_11.out
                              subst eo45
                              have p318 : 0 ≤ (x12_3 : Int) := of_decide_eq_true (by first | (with_reducible assumption) | assumption)
                              have q318 : x12_3 < (l2.length : Int) := of_decide_eq_true (by first | (with_reducible assumption) | assumption)
                              obtain ⟨ad318, e318, hx318_0⟩ := Kd.at_string (Kd.V_reads' HO_2.out).2.2 x12_3 p318 q318
                              cases e318
                              replace p318 := eq_true p318
                              replace q318 := eq_true q318
                              go_wp2_with (first | ((with_reducible refine gate_callee (f := 16) rfl ?_); refine goesL_ (some 97) rfl rfl Try.func16 (by kernel_rfl) rfl #[.slice Ao45 x11_3.length co45, .int .i64 (wrap64 ((x11_3.length : Int) + 1)), .string (rdOf ByteArray.empty l2 x12_3)] rfl (by (try simp only [List.map_toArray, List.map_cons, List.map_nil]); first | done | rfl | (simp only [List.length_drop, List.length_take]; rfl)) ?_; (with_reducible refine (log_Put.calls _ _ x11_3 (wrap64 ((x11_3.length : Int) + 1)) (rdOf ByteArray.empty l2 x12_3) t319 true _ ?side1 ?side2 A43.out).mono ?_); (case side1 => repeat (first | exact (Kd.R_reads' HO_11.out).2.2 | (with_reducible refine Kd.C_alloc ?_ _) | (with_reducible refine Kd.C_drewN ?_ _) | (with_reducible refine Kd.C_drew ?_))); (case side2 => exact (Kd.R_reads' HO_11.out).2.1); rintro e w46 ⟨v321, rfl, ho0, hb⟩; refine ⟨_, rfl, ?_⟩; have n0_ := Aside0.mk (Kd.V_elder' (by (with_reducible repeat (first | apply Kd.V_alloc | apply Kd.V_drewN | apply Kd.V_drew)); exact HO_0.out) (Kd.R_base ho0) hb); have n1_ := Aside0.mk (Kd.V_elder' (by (with_reducible repeat (first | apply Kd.V_alloc | apply Kd.V_drewN | apply Kd.V_drew)); exact HO_2.out) (Kd.R_base ho0) hb); have n2_ := Aside0.mk (Kd.R_elder' (by (with_reducible repeat (first | apply Kd.R_alloc | apply Kd.R_drewN | apply Kd.R_drew)); exact HO_7.out) (Kd.R_base ho0) hb); have n3_ := Aside0.mk (Kd.R_elder' (by (with_reducible repeat (first | apply Kd.R_alloc | apply Kd.R_drewN | apply Kd.R_drew)); exact HO_9.out) (Kd.R_base ho0) hb); have n4_ := Aside0.mk (Kd.R_elder' (by (with_reducible repeat (first | apply Kd.R_alloc | apply Kd.R_drewN | apply Kd.R_drew)); exact HO_11.out) (Kd.R_base ho0) hb); have n5_ := Aside0.mk (Kd.R_lower (Kd.R_new' (Kd.R_new' (Kd.R_new' (Kd.R_newM (M := fun k_ => (w.heap.size ≤ k_)) ho0 (below_size (by repeat (first | (with_reducible first | exact HB.out | apply below_alloc | apply pw_below_drewN | apply below_drew1) | exact HB.out))) (fun k_ h_ => h_)) (Kd.R_lt (by (with_reducible repeat (first | apply Kd.R_alloc | apply Kd.R_drewN | apply Kd.R_drew)); exact HO_7.out))) (Kd.R_lt (by (with_reducible repeat (first | apply Kd.R_alloc | apply Kd.R_drewN | apply Kd.R_drew)); exact HO_9.out))) (Kd.R_lt (by (with_reducible repeat (first | apply Kd.R_alloc | apply Kd.R_drewN | apply Kd.R_drew)); exact HO_11.out))) (below_size (by repeat (first | (with_reducible first | exact HB.out | apply below_alloc | apply pw_below_drewN | apply below_drew1) | exact HB.out)))); have n6_ := Aside0.mk (below_step (by repeat (first | (with_reducible first | exact HB.out | apply below_alloc | apply pw_below_drewN | apply below_drew1) | exact HB.out)) hb); clear HO_0; clear HO_2; clear HO_7; clear HO_9; clear HO_11; clear HB; have HO_0 := n0_; have HO_2 := n1_; have HO_7 := n2_; have HO_9 := n3_; have HO_11 := n4_; have HO322 := n5_; have HB := n6_; clear n0_ n1_ n2_ n3_ n4_ n5_ n6_; (try clear hb); (try clear hb2); (try clear hk); (try clear hi); (try clear ho0)))
                              go_roundg k3
                              case measure => have := HJ3.out; have := HJ10.out; have := HK3.out; omega
                              case rel => exact ⟨(t319), (wrap64 (x12_3 + 1)), (by first | rfl | (simp; done) | (simp [*]; done)), H', ⟨by have := HJ3.out; have := HJ10.out; have := HK3.out; omega⟩, ⟨by (with_reducible repeat (first | apply Kd.V_alloc | apply Kd.V_drewN | apply Kd.V_drew)); exact Kd.V_mono HO_0.out (fun _ hk => ⟨hk.1.1, ⟨hk.1.2.1, ⟨hk.1.2.2.1, hk.2⟩⟩⟩)⟩, ⟨by (with_reducible repeat (first | apply Kd.V_alloc | apply Kd.V_drewN | apply Kd.V_drew)); exact Kd.V_mono HO_2.out (fun _ hk => ⟨hk.1.1, ⟨hk.1.2.1, ⟨hk.1.2.2.1, hk.2⟩⟩⟩)⟩, ⟨by (with_reducible repeat (first | apply Kd.R_alloc | apply Kd.R_drewN | apply Kd.R_drew)); exact Kd.R_mono HO_7.out (fun _ hk => ⟨hk.1.1, ⟨hk.1.2.1, hk.2⟩⟩)⟩, ⟨by (with_reducible repeat (first | apply Kd.R_alloc | apply Kd.R_drewN | apply Kd.R_drew)); exact Kd.R_mono HO_9.out (fun _ hk => ⟨hk.1.1, ⟨hk.1.2.1, hk.2⟩⟩)⟩, ⟨by (with_reducible repeat (first | apply Kd.R_alloc | apply Kd.R_drewN | apply Kd.R_drew)); exact Kd.R_mono HO322.out (fun _ hk => ⟨hk.1.1.1.1, ⟨hk.1.1.2, hk.1.2⟩⟩)⟩, ⟨by repeat (first | (with_reducible first | exact HB.out | apply below_alloc | apply pw_below_drewN | apply below_drew1) | exact HB.out)⟩⟩
                            · replace c44 := Bool.eq_false_iff.mpr c44
                              subst c44
                              have H1 : (none) = some r := by rw [if_neg (show ¬ (false = true) by decide)] at H; exact H
                              clear H
                              have H := H1
                              clear H1
                              exact absurd H (by simp)
                          · rw [if_neg c42] at H
                            exact absurd H (by simp)
                        · rw [if_neg c41] at H
                          have c41b0 : decide (x12_3 < (l2.length : Int)) = false := decide_eq_false c41
                          clear c41
                          replace H := Option.bind_eq_some_iff.mp H
                          obtain ⟨t323, A470, H⟩ := H
                          replace H : (if t323 = true then (if t309 = true then ((watchmanref01_Texts.f k3 t306 l0).bind fun t324 => (if t324 = true then ((watchmanref01_Texts.f k3 x11_3 t285).bind fun t325 => (some t325)) else (none))) else (none)) else (none)) = some r := H
                          have A47 := Aside0.mk A470
                          clear A470
                          by_cases c48 : t323 = true
                          · subst c48
                            have H1 : (if t309 = true then ((watchmanref01_Texts.f k3 t306 l0).bind fun t324 => (if t324 = true then ((watchmanref01_Texts.f k3 x11_3 t285).bind fun t325 => (some t325)) else (none))) else (none)) = some r := by rw [if_pos rfl] at H; exact H
                            clear H
                            have H := H1
                            clear H1
                            by_cases c49 : t309 = true
                            · subst c49
                              have H1 : ((watchmanref01_Texts.f k3 t306 l0).bind fun t324 => (if t324 = true then ((watchmanref01_Texts.f k3 x11_3 t285).bind fun t325 => (some t325)) else (none))) = some r := by rw [if_pos rfl] at H; exact H
                              clear H
                              have H := H1
                              clear H1
                              replace H := Option.bind_eq_some_iff.mp H
                              obtain ⟨t324, A500, H⟩ := H
                              replace H : (if t324 = true then ((watchmanref01_Texts.f k3 x11_3 t285).bind fun t325 => (some t325)) else (none)) = some r := H
                              have A50 := Aside0.mk A500
                              clear A500
                              by_cases c51 : t324 = true
                              · subst c51
                                have H1 : ((watchmanref01_Texts.f k3 x11_3 t285).bind fun t325 => (some t325)) = some r := by rw [if_pos rfl] at H; exact H
                                clear H
                                have H := H1
                                clear H1
                                replace H := Option.bind_eq_some_iff.mp H
                                obtain ⟨t325, A520, H⟩ := H
                                replace H : (some t325) = some r := H
                                have A52 := Aside0.mk A520
                                clear A520
                                obtain rfl := Option.some.inj H
                                go_wp2_with (first | ((with_reducible refine gate_callee (f := 11) rfl ?_); refine goesL_ (some 103) rfl rfl Try.func11 (by kernel_rfl) rfl #[] rfl (by (try simp only [List.map_toArray, List.map_cons, List.map_nil]); first | done | rfl | (simp only [List.length_drop, List.length_take]; rfl)) ?_; (with_reducible refine (watchmanlaw23_joined.calls k3  true _ A47.out).mono ?_); rintro e w53 ⟨rfl, hb⟩; refine ⟨_, rfl, ?_⟩; have n0_ := Aside0.mk (Kd.V_below (by (with_reducible repeat (first | apply Kd.V_alloc | apply Kd.V_drewN | apply Kd.V_drew)); exact HO_0.out) hb); have n1_ := Aside0.mk (Kd.V_below (by (with_reducible repeat (first | apply Kd.V_alloc | apply Kd.V_drewN | apply Kd.V_drew)); exact HO_2.out) hb); have n2_ := Aside0.mk (Kd.R_below (by (with_reducible repeat (first | apply Kd.R_alloc | apply Kd.R_drewN | apply Kd.R_drew)); exact HO_7.out) hb); have n3_ := Aside0.mk (Kd.R_below (by (with_reducible repeat (first | apply Kd.R_alloc | apply Kd.R_drewN | apply Kd.R_drew)); exact HO_9.out) hb); have n4_ := Aside0.mk (Kd.R_below (by (with_reducible repeat (first | apply Kd.R_alloc | apply Kd.R_drewN | apply Kd.R_drew)); exact HO_11.out) hb); have n5_ := Aside0.mk (below_step (by repeat (first | (with_reducible first | exact HB.out | apply below_alloc | apply pw_below_drewN | apply below_drew1) | exact HB.out)) hb); clear HO_0; clear HO_2; clear HO_7; clear HO_9; clear HO_11; clear HB; have HO_0 := n0_; have HO_2 := n1_; have HO_7 := n2_; have HO_9 := n3_; have HO_11 := n4_; have HB := n5_; clear n0_ n1_ n2_ n3_ n4_ n5_; (try clear hb); (try clear hb2); (try clear hk); (try clear hi); obtain ⟨Ao54, co54, eo54⟩ := Kd.R_slice HO_9.out; subst eo54) | (go_at_call 12; (with_reducible refine (watchmanref01_Texts.calls k3 _ _ t306 _ _ l0 true _ ?side1 ?side2 ?side3 ?side4 A50.out).mono ?_); (case side1 => repeat (first | exact (Kd.R_reads' HO_9.out).2.2 | (with_reducible refine Kd.C_alloc ?_ _) | (with_reducible refine Kd.C_drewN ?_ _) | (with_reducible refine Kd.C_drew ?_))); (case side2 => exact (Kd.R_reads' HO_9.out).2.1); (case side3 => repeat (first | exact (Kd.V_reads' HO_0.out).2.2 | (with_reducible refine Kd.C_alloc ?_ _) | (with_reducible refine Kd.C_drewN ?_ _) | (with_reducible refine Kd.C_drew ?_))); (case side4 => exact (Kd.V_reads' HO_0.out).2.1); (try clear A50); rintro e w55 ⟨rfl, hb⟩; have n0_ := Aside0.mk (Kd.V_below (by (with_reducible repeat (first | apply Kd.V_alloc | apply Kd.V_drewN | apply Kd.V_drew)); exact HO_0.out) hb); have n1_ := Aside0.mk (Kd.V_below (by (with_reducible repeat (first | apply Kd.V_alloc | apply Kd.V_drewN | apply Kd.V_drew)); exact HO_2.out) hb); have n2_ := Aside0.mk (Kd.R_below (by (with_reducible repeat (first | apply Kd.R_alloc | apply Kd.R_drewN | apply Kd.R_drew)); exact HO_7.out) hb); have n3_ := Aside0.mk (Kd.R_below (by (with_reducible repeat (first | apply Kd.R_alloc | apply Kd.R_drewN | apply Kd.R_drew)); exact HO_9.out) hb); have n4_ := Aside0.mk (Kd.R_below (by (with_reducible repeat (first | apply Kd.R_alloc | apply Kd.R_drewN | apply Kd.R_drew)); exact HO_11.out) hb); have n5_ := Aside0.mk (below_step (by repeat (first | (with_reducible first | exact HB.out | apply below_alloc | apply pw_below_drewN | apply below_drew1) | exact HB.out)) hb); clear HO_0; clear HO_2; clear HO_7; clear HO_9; clear HO_11; clear HB; have HO_0 := n0_; have HO_2 := n1_; have HO_7 := n2_; have HO_9 := n3_; have HO_11 := n4_; have HB := n5_; clear n0_ n1_ n2_ n3_ n4_ n5_; (try clear hb); (try clear hb2); (try clear hk); (try clear hi); obtain ⟨Ao56, co56, eo56⟩ := Kd.R_slice HO_11.out; subst eo56; obtain ⟨Ao57, co57, eo57⟩ := Kd.R_slice HO_7.out; subst eo57) | (go_at_call 12; (with_reducible refine (watchmanref01_Texts.calls k3 _ _ x11_3 _ _ t285 t325 _ ?side1 ?side2 ?side3 ?side4 A52.out).mono ?_); (case side1 => repeat (first | exact (Kd.R_reads' HO_11.out).2.2 | (with_reducible refine Kd.C_alloc ?_ _) | (with_reducible refine Kd.C_drewN ?_ _) | (with_reducible refine Kd.C_drew ?_))); (case side2 => exact (Kd.R_reads' HO_11.out).2.1); (case side3 => repeat (first | exact (Kd.R_reads' HO_7.out).2.2 | (with_reducible refine Kd.C_alloc ?_ _) | (with_reducible refine Kd.C_drewN ?_ _) | (with_reducible refine Kd.C_drew ?_))); (case side4 => exact (Kd.R_reads' HO_7.out).2.1); (try clear A52); rintro e w58 ⟨rfl, hb⟩; have n0_ := Aside0.mk (Kd.V_below (by (with_reducible repeat (first | apply Kd.V_alloc | apply Kd.V_drewN | apply Kd.V_drew)); exact HO_0.out) hb); have n1_ := Aside0.mk (Kd.V_below (by (with_reducible repeat (first | apply Kd.V_alloc | apply Kd.V_drewN | apply Kd.V_drew)); exact HO_2.out) hb); have n2_ := Aside0.mk (Kd.R_below (by (with_reducible repeat (first | apply Kd.R_alloc | apply Kd.R_drewN | apply Kd.R_drew)); exact HO_7.out) hb); have n3_ := Aside0.mk (Kd.R_below (by (with_reducible repeat (first | apply Kd.R_alloc | apply Kd.R_drewN | apply Kd.R_drew)); exact HO_9.out) hb); have n4_ := Aside0.mk (Kd.R_below (by (with_reducible repeat (first | apply Kd.R_alloc | apply Kd.R_drewN | apply Kd.R_drew)); exact HO_11.out) hb); have n5_ := Aside0.mk (below_step (by repeat (first | (with_reducible first | exact HB.out | apply below_alloc | apply pw_below_drewN | apply below_drew1) | exact HB.out)) hb); clear HO_0; clear HO_2; clear HO_7; clear HO_9; clear HO_11; clear HB; have HO_0 := n0_; have HO_2 := n1_; have HO_7 := n2_; have HO_9 := n3_; have HO_11 := n4_; have HB := n5_; clear n0_ n1_ n2_ n3_ n4_ n5_; (try clear hb); (try clear hb2); (try clear hk); (try clear hi)))
                                go_ret
                                exact ⟨by first | rfl | (simp [errW_none, errW_some] <;> rfl) | (simp [*, errW_none, errW_some] <;> rfl), by repeat (first | (with_reducible first | exact HB.out | apply below_alloc | apply pw_below_drewN | apply below_drew1) | exact HB.out)⟩
                              · replace c51 := Bool.eq_false_iff.mpr c51
                                subst c51
                                have H1 : (none) = some r := by rw [if_neg (show ¬ (false = true) by decide)] at H; exact H
                                clear H
                                have H := H1
                                clear H1
                                exact absurd H (by simp)
                            · replace c49 := Bool.eq_false_iff.mpr c49
                              subst c49
                              have H1 : (none) = some r := by rw [if_neg (show ¬ (false = true) by decide)] at H; exact H
                              clear H
                              have H := H1
                              clear H1
                              exact absurd H (by simp)
                          · replace c48 := Bool.eq_false_iff.mpr c48
                            subst c48
                            have H1 : (none) = some r := by rw [if_neg (show ¬ (false = true) by decide)] at H; exact H
                            clear H
                            have H := H1
                            clear H1
                            exact absurd H (by simp)
                  · rw [if_neg c34] at H
                    exact absurd H (by simp)
                · rw [if_neg c33] at H
                  exact absurd H (by simp)
        · replace c10 := Bool.eq_false_iff.mpr c10
          subst c10
          have H1 : ((watchmanlaw23_joined.f kj3).bind fun t289 => (if t289 = true then (if a1 < 0 then ((watchmanref01_Texts.f kj3 t285 l0).bind fun t290 => (some t290)) else (if a1 > (l0.length : Int) then ((watchmanref01_Texts.f kj3 t285 l0).bind fun t291 => (some t291)) else (none))) else (none))) = some r := by rw [if_neg (show ¬ (false = true) by decide)] at H; exact H
          clear H
          have H := H1
          clear H1
          replace H := Option.bind_eq_some_iff.mp H
          obtain ⟨t289, A590, H⟩ := H
          replace H : (if t289 = true then (if a1 < 0 then ((watchmanref01_Texts.f kj3 t285 l0).bind fun t290 => (some t290)) else (if a1 > (l0.length : Int) then ((watchmanref01_Texts.f kj3 t285 l0).bind fun t291 => (some t291)) else (none))) else (none)) = some r := H
          have A59 := Aside0.mk A590
          clear A590
          by_cases c60 : t289 = true
          · subst c60
            have H1 : (if a1 < 0 then ((watchmanref01_Texts.f kj3 t285 l0).bind fun t290 => (some t290)) else (if a1 > (l0.length : Int) then ((watchmanref01_Texts.f kj3 t285 l0).bind fun t291 => (some t291)) else (none))) = some r := by rw [if_pos rfl] at H; exact H
            clear H
            have H := H1
            clear H1
            by_cases c61 : a1 < 0
            · rw [if_pos c61] at H
              have c61b0 : decide (a1 < 0) = true := decide_eq_true c61
              clear c61
              replace H := Option.bind_eq_some_iff.mp H
              obtain ⟨t290, A620, H⟩ := H
              replace H : (some t290) = some r := H
              have A62 := Aside0.mk A620
              clear A620
              obtain rfl := Option.some.inj H
              go_wp2_with (first | ((with_reducible refine gate_callee (f := 13) rfl ?_); refine goesL_ (some 25) rfl rfl Try.func13 (by kernel_rfl) rfl #[.slice A0 l0.length c0, .int .i64 a1, .slice A2 l2.length c2] rfl (by (try simp only [List.map_toArray, List.map_cons, List.map_nil]); first | done | rfl | (simp only [List.length_drop, List.length_take]; rfl)) ?_; (with_reducible refine (log_Join.calls kj3 (fun k_ => ((P0_ k_ ∨ P2_ k_) ∨ w.heap.size ≤ k_)) _ _ l0 a1 (fun k_ => ((P0_ k_ ∨ P2_ k_) ∨ w.heap.size ≤ k_)) _ _ l2 t285 false _ ?side1 ?side2 A9.out).mono ?_); (case side1 => exact HO_0.out); (case side2 => exact HO_2.out); rintro e w63 ⟨v286, rfl, ho0, hb⟩; refine ⟨_, rfl, ?_⟩; have n0_ := Aside0.mk (Kd.V_elder' (by (with_reducible repeat (first | apply Kd.V_alloc | apply Kd.V_drewN | apply Kd.V_drew)); exact HO_0.out) (Kd.R_base ho0) hb); have n1_ := Aside0.mk (Kd.V_elder' (by (with_reducible repeat (first | apply Kd.V_alloc | apply Kd.V_drewN | apply Kd.V_drew)); exact HO_2.out) (Kd.R_base ho0) hb); have n2_ := Aside0.mk (Kd.R_lower (Kd.R_newM (M := fun k_ => (w.heap.size ≤ k_)) (Kd.R_mono (ok' := fun k_ => True) ho0 (fun _ hk_ => trivial)) (below_size (by repeat (first | (with_reducible first | exact HB.out | apply below_alloc | apply pw_below_drewN | apply below_drew1) | exact HB.out))) (fun k_ h_ => h_)) (below_size (by repeat (first | (with_reducible first | exact HB.out | apply below_alloc | apply pw_below_drewN | apply below_drew1) | exact HB.out)))); have n3_ := Aside0.mk (below_step (by repeat (first | (with_reducible first | exact HB.out | apply below_alloc | apply pw_below_drewN | apply below_drew1) | exact HB.out)) hb); clear HO_0; clear HO_2; clear HB; have HO_0 := n0_; have HO_2 := n1_; have HO287 := n2_; have HB := n3_; clear n0_ n1_ n2_ n3_; (try clear hb); (try clear hb2); (try clear hk); (try clear hi); (try clear ho0)) | ((with_reducible refine gate_callee (f := 11) rfl ?_); refine goesL_ (some 30) rfl rfl Try.func11 (by kernel_rfl) rfl #[] rfl (by (try simp only [List.map_toArray, List.map_cons, List.map_nil]); first | done | rfl | (simp only [List.length_drop, List.length_take]; rfl)) ?_; (with_reducible refine (watchmanlaw23_joined.calls kj3  true _ A59.out).mono ?_); rintro e w64 ⟨rfl, hb⟩; refine ⟨_, rfl, ?_⟩; have n0_ := Aside0.mk (Kd.V_below (by (with_reducible repeat (first | apply Kd.V_alloc | apply Kd.V_drewN | apply Kd.V_drew)); exact HO_0.out) hb); have n1_ := Aside0.mk (Kd.V_below (by (with_reducible repeat (first | apply Kd.V_alloc | apply Kd.V_drewN | apply Kd.V_drew)); exact HO_2.out) hb); have n2_ := Aside0.mk (Kd.R_below (by (with_reducible repeat (first | apply Kd.R_alloc | apply Kd.R_drewN | apply Kd.R_drew)); exact HO287.out) hb); have n3_ := Aside0.mk (below_step (by repeat (first | (with_reducible first | exact HB.out | apply below_alloc | apply pw_below_drewN | apply below_drew1) | exact HB.out)) hb); clear HO_0; clear HO_2; clear HO287; clear HB; have HO_0 := n0_; have HO_2 := n1_; have HO287 := n2_; have HB := n3_; clear n0_ n1_ n2_ n3_; (try clear hb); (try clear hb2); (try clear hk); (try clear hi); obtain ⟨Ao65, co65, eo65⟩ := Kd.R_slice HO287.out; subst eo65) | (go_at_call 12; (with_reducible refine (watchmanref01_Texts.calls kj3 _ _ t285 _ _ l0 t290 _ ?side1 ?side2 ?side3 ?side4 A62.out).mono ?_); (case side1 => repeat (first | exact (Kd.R_reads' HO287.out).2.2 | (with_reducible refine Kd.C_alloc ?_ _) | (with_reducible refine Kd.C_drewN ?_ _) | (with_reducible refine Kd.C_drew ?_))); (case side2 => exact (Kd.R_reads' HO287.out).2.1); (case side3 => repeat (first | exact (Kd.V_reads' HO_0.out).2.2 | (with_reducible refine Kd.C_alloc ?_ _) | (with_reducible refine Kd.C_drewN ?_ _) | (with_reducible refine Kd.C_drew ?_))); (case side4 => exact (Kd.V_reads' HO_0.out).2.1); rintro e w66 ⟨rfl, hb⟩; have n0_ := Aside0.mk (Kd.V_below (by (with_reducible repeat (first | apply Kd.V_alloc | apply Kd.V_drewN | apply Kd.V_drew)); exact HO_0.out) hb); have n1_ := Aside0.mk (Kd.V_below (by (with_reducible repeat (first | apply Kd.V_alloc | apply Kd.V_drewN | apply Kd.V_drew)); exact HO_2.out) hb); have n2_ := Aside0.mk (Kd.R_below (by (with_reducible repeat (first | apply Kd.R_alloc | apply Kd.R_drewN | apply Kd.R_drew)); exact HO287.out) hb); have n3_ := Aside0.mk (below_step (by repeat (first | (with_reducible first | exact HB.out | apply below_alloc | apply pw_below_drewN | apply below_drew1) | exact HB.out)) hb); clear HO_0; clear HO_2; clear HO287; clear HB; have HO_0 := n0_; have HO_2 := n1_; have HO287 := n2_; have HB := n3_; clear n0_ n1_ n2_ n3_; (try clear hb); (try clear hb2); (try clear hk); (try clear hi)))
              go_ret
              exact ⟨by first | rfl | (simp [errW_none, errW_some] <;> rfl) | (simp [*, errW_none, errW_some] <;> rfl), by repeat (first | (with_reducible first | exact HB.out | apply below_alloc | apply pw_below_drewN | apply below_drew1) | exact HB.out)⟩
            · rw [if_neg c61] at H
              have c61b0 : decide (a1 < 0) = false := decide_eq_false c61
              clear c61
              by_cases c67 : a1 > (l0.length : Int)
              · rw [if_pos c67] at H
                have c67b0 : decide ((l0.length : Int) < a1) = true := decide_eq_true c67
                clear c67
                replace H := Option.bind_eq_some_iff.mp H
                obtain ⟨t291, A680, H⟩ := H
                replace H : (some t291) = some r := H
                have A68 := Aside0.mk A680
                clear A680
                obtain rfl := Option.some.inj H
                go_wp2_with (first | ((with_reducible refine gate_callee (f := 13) rfl ?_); refine goesL_ (some 25) rfl rfl Try.func13 (by kernel_rfl) rfl #[.slice A0 l0.length c0, .int .i64 a1, .slice A2 l2.length c2] rfl (by (try simp only [List.map_toArray, List.map_cons, List.map_nil]); first | done | rfl | (simp only [List.length_drop, List.length_take]; rfl)) ?_; (with_reducible refine (log_Join.calls kj3 (fun k_ => ((P0_ k_ ∨ P2_ k_) ∨ w.heap.size ≤ k_)) _ _ l0 a1 (fun k_ => ((P0_ k_ ∨ P2_ k_) ∨ w.heap.size ≤ k_)) _ _ l2 t285 false _ ?side1 ?side2 A9.out).mono ?_); (case side1 => exact HO_0.out); (case side2 => exact HO_2.out); rintro e w69 ⟨v286, rfl, ho0, hb⟩; refine ⟨_, rfl, ?_⟩; have n0_ := Aside0.mk (Kd.V_elder' (by (with_reducible repeat (first | apply Kd.V_alloc | apply Kd.V_drewN | apply Kd.V_drew)); exact HO_0.out) (Kd.R_base ho0) hb); have n1_ := Aside0.mk (Kd.V_elder' (by (with_reducible repeat (first | apply Kd.V_alloc | apply Kd.V_drewN | apply Kd.V_drew)); exact HO_2.out) (Kd.R_base ho0) hb); have n2_ := Aside0.mk (Kd.R_lower (Kd.R_newM (M := fun k_ => (w.heap.size ≤ k_)) (Kd.R_mono (ok' := fun k_ => True) ho0 (fun _ hk_ => trivial)) (below_size (by repeat (first | (with_reducible first | exact HB.out | apply below_alloc | apply pw_below_drewN | apply below_drew1) | exact HB.out))) (fun k_ h_ => h_)) (below_size (by repeat (first | (with_reducible first | exact HB.out | apply below_alloc | apply pw_below_drewN | apply below_drew1) | exact HB.out)))); have n3_ := Aside0.mk (below_step (by repeat (first | (with_reducible first | exact HB.out | apply below_alloc | apply pw_below_drewN | apply below_drew1) | exact HB.out)) hb); clear HO_0; clear HO_2; clear HB; have HO_0 := n0_; have HO_2 := n1_; have HO287 := n2_; have HB := n3_; clear n0_ n1_ n2_ n3_; (try clear hb); (try clear hb2); (try clear hk); (try clear hi); (try clear ho0)) | ((with_reducible refine gate_callee (f := 11) rfl ?_); refine goesL_ (some 30) rfl rfl Try.func11 (by kernel_rfl) rfl #[] rfl (by (try simp only [List.map_toArray, List.map_cons, List.map_nil]); first | done | rfl | (simp only [List.length_drop, List.length_take]; rfl)) ?_; (with_reducible refine (watchmanlaw23_joined.calls kj3  true _ A59.out).mono ?_); rintro e w70 ⟨rfl, hb⟩; refine ⟨_, rfl, ?_⟩; have n0_ := Aside0.mk (Kd.V_below (by (with_reducible repeat (first | apply Kd.V_alloc | apply Kd.V_drewN | apply Kd.V_drew)); exact HO_0.out) hb); have n1_ := Aside0.mk (Kd.V_below (by (with_reducible repeat (first | apply Kd.V_alloc | apply Kd.V_drewN | apply Kd.V_drew)); exact HO_2.out) hb); have n2_ := Aside0.mk (Kd.R_below (by (with_reducible repeat (first | apply Kd.R_alloc | apply Kd.R_drewN | apply Kd.R_drew)); exact HO287.out) hb); have n3_ := Aside0.mk (below_step (by repeat (first | (with_reducible first | exact HB.out | apply below_alloc | apply pw_below_drewN | apply below_drew1) | exact HB.out)) hb); clear HO_0; clear HO_2; clear HO287; clear HB; have HO_0 := n0_; have HO_2 := n1_; have HO287 := n2_; have HB := n3_; clear n0_ n1_ n2_ n3_; (try clear hb); (try clear hb2); (try clear hk); (try clear hi); obtain ⟨Ao71, co71, eo71⟩ := Kd.R_slice HO287.out; subst eo71) | (go_at_call 12; (with_reducible refine (watchmanref01_Texts.calls kj3 _ _ t285 _ _ l0 t291 _ ?side1 ?side2 ?side3 ?side4 A68.out).mono ?_); (case side1 => repeat (first | exact (Kd.R_reads' HO287.out).2.2 | (with_reducible refine Kd.C_alloc ?_ _) | (with_reducible refine Kd.C_drewN ?_ _) | (with_reducible refine Kd.C_drew ?_))); (case side2 => exact (Kd.R_reads' HO287.out).2.1); (case side3 => repeat (first | exact (Kd.V_reads' HO_0.out).2.2 | (with_reducible refine Kd.C_alloc ?_ _) | (with_reducible refine Kd.C_drewN ?_ _) | (with_reducible refine Kd.C_drew ?_))); (case side4 => exact (Kd.V_reads' HO_0.out).2.1); rintro e w72 ⟨rfl, hb⟩; have n0_ := Aside0.mk (Kd.V_below (by (with_reducible repeat (first | apply Kd.V_alloc | apply Kd.V_drewN | apply Kd.V_drew)); exact HO_0.out) hb); have n1_ := Aside0.mk (Kd.V_below (by (with_reducible repeat (first | apply Kd.V_alloc | apply Kd.V_drewN | apply Kd.V_drew)); exact HO_2.out) hb); have n2_ := Aside0.mk (Kd.R_below (by (with_reducible repeat (first | apply Kd.R_alloc | apply Kd.R_drewN | apply Kd.R_drew)); exact HO287.out) hb); have n3_ := Aside0.mk (below_step (by repeat (first | (with_reducible first | exact HB.out | apply below_alloc | apply pw_below_drewN | apply below_drew1) | exact HB.out)) hb); clear HO_0; clear HO_2; clear HO287; clear HB; have HO_0 := n0_; have HO_2 := n1_; have HO287 := n2_; have HB := n3_; clear n0_ n1_ n2_ n3_; (try clear hb); (try clear hb2); (try clear hk); (try clear hi)))
                go_ret
                exact ⟨by first | rfl | (simp [errW_none, errW_some] <;> rfl) | (simp [*, errW_none, errW_some] <;> rfl), by repeat (first | (with_reducible first | exact HB.out | apply below_alloc | apply pw_below_drewN | apply below_drew1) | exact HB.out)⟩
              · rw [if_neg c67] at H
                exact absurd H (by simp)
          · replace c60 := Bool.eq_false_iff.mpr c60
            subst c60
            have H1 : (none) = some r := by rw [if_neg (show ¬ (false = true) by decide)] at H; exact H
            clear H
            have H := H1
            clear H1
            exact absurd H (by simp)

end Go.Proofs.Ytncoccpgdgdknaa.F
