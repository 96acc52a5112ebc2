-- Written by a program of this session (xprint.py), out of the translation and of contracts proved by hand.
import Derived.Test.YtofbkpdpgmjllaaF0
import Derived.Test.YtofbkpdpgmjllaaF8
import Derived.Test.YtofbkpdpgmjllaaF10
import Derived.Test.YtofbkpdpgmjllaaF11
import Derived.Test.YtofbkpdpgmjllaaF12
namespace Go.Proofs.Ytofbkpdpgmjllaa.F
open Go.RowKit Go.Proofs.YtofbkpdpgmjllaaV.PrintWords Go.Proofs.YtofbkpdpgmjllaaV.PrintLast Go.Proofs.YtofbkpdpgmjllaaV.PrintMore
attribute [local go_sem] max2_int min2_int max_two min_two max_three min_three max_four min_four   -- for this text's walks alone
set_option linter.unusedVariables false
set_option linter.unusedSimpArgs false

/-! ### watchmanref21_Again: function 16 -/
def watchmanref21_Again.f (k : Nat) (a0_0 : Int) (l0_1 : List (S35)) (a1 : Int) : Option (Int × (List (S35)) × Int × Int) := (watchmanref21_Is.f k a0_0 l0_1).bind fun t204 => (if t204 = true then ((watchmanref21_find.f k a0_0 l0_1 a1).bind fun bt205 => (if bt205.2.2.2.2 = true then ((watchmanref21_Send.f k a0_0 l0_1 bt205.2.1 bt205.2.2.1 (([bt205.2.2.2.1] : List ByteArray))).bind fun bt214 => (some (bt214.1, bt214.2.1, bt214.2.2.1, bt214.2.2.2))) else (some (0, ([] : List (S35)), 0, 80)))) else (some (0, ([] : List (S35)), 0, 1)))
theorem watchmanref21_Again.mono : ∀ a0 a1 a2 k, LeO (watchmanref21_Again.f k a0 a1 a2) (watchmanref21_Again.f (k + 1) a0 a1 a2) := by
  intro a0 a1 a2 k
  unfold watchmanref21_Again.f
  repeat' first
      | (with_reducible exact watchmanref21_Is.mono _ _ _)
      | (with_reducible exact watchmanref21_Send.mono _ _ _ _ _ _)
      | (with_reducible exact watchmanref21_find.mono _ _ _ _)
      | (with_reducible exact LeO.refl _)
      | (with_reducible exact LeO.none _)
      | (with_reducible refine LeO.ite ?_ ?_)
      | (with_reducible refine LeO.bind ?_ (fun _ => ?_))
      | exact watchmanref21_Is.mono _ _ _
      | exact watchmanref21_Send.mono _ _ _ _ _ _
      | exact watchmanref21_find.mono _ _ _ _
      | exact LeO.none _
      | refine LeO.ite ?_ ?_
      | refine LeO.bind ?_ (fun _ => ?_)
set_option maxHeartbeats 8000000 in
set_option maxRecDepth 100000 in
theorem watchmanref21_Again.calls (k : Nat) (a0_0 : Int) (A0_1 : Option Addr) (c0_1 : Nat) (l0_1 : List (S35)) (a1 : Int) (r1 : Int) (r2 : List (S35)) (r3 : Int) (r4 : Int) (w : World) (hr0_1 : Kd.C k35 w A0_1 l0_1.length l0_1) (hc0_1 : l0_1.length ≤ c0_1) (h : watchmanref21_Again.f k a0_0 l0_1 a1 = some (r1, r2, r3, r4)) :
    Calls Try.prog 16 #[.agg #[.int .i64 a0_0, .slice A0_1 l0_1.length c0_1], .int .i64 a1] w fun e w' => ∃ v1_ : Value, e = .returned (.tuple #[.agg #[.int .i64 r1, v1_], .int .i64 r3, .int .i64 r4]) ∧ Kd.R k35 35 w' w.heap.size (fun _ => True) v1_ r2 ∧ Below w.heap.size w w' := by
  have hu24 := Try.underlying24
  have hu35 := Try.underlying35
  have HR0_1 := Aside0.mk hr0_1
  have HC0_1 := Aside0.mk hc0_1
  clear hr0_1 hc0_1
  have HB := Aside0.mk (Below.refl w.heap.size w)
  have H : ((watchmanref21_Is.f k a0_0 l0_1).bind fun t204 => (if t204 = true then ((watchmanref21_find.f k a0_0 l0_1 a1).bind fun bt205 => (if bt205.2.2.2.2 = true then ((watchmanref21_Send.f k a0_0 l0_1 bt205.2.1 bt205.2.2.1 (([bt205.2.2.2.1] : List ByteArray))).bind fun bt214 => (some (bt214.1, bt214.2.1, bt214.2.2.1, bt214.2.2.2))) else (some (0, ([] : List (S35)), 0, 80)))) else (some (0, ([] : List (S35)), 0, 1)))) = some (r1, r2, r3, r4) := h
  clear h
  replace H := Option.bind_eq_some_iff.mp H
  obtain ⟨t204, A30, H⟩ := H
  replace H : (if t204 = true then ((watchmanref21_find.f k a0_0 l0_1 a1).bind fun bt205 => (if bt205.2.2.2.2 = true then ((watchmanref21_Send.f k a0_0 l0_1 bt205.2.1 bt205.2.2.1 (([bt205.2.2.2.1] : List ByteArray))).bind fun bt214 => (some (bt214.1, bt214.2.1, bt214.2.2.1, bt214.2.2.2))) else (some (0, ([] : List (S35)), 0, 80)))) else (some (0, ([] : List (S35)), 0, 1))) = some (r1, r2, r3, r4) := H
  have A3 := Aside0.mk A30
  clear A30
  by_cases c4 : t204 = true
  · subst c4
    have H1 : ((watchmanref21_find.f k a0_0 l0_1 a1).bind fun bt205 => (if bt205.2.2.2.2 = true then ((watchmanref21_Send.f k a0_0 l0_1 bt205.2.1 bt205.2.2.1 (([bt205.2.2.2.1] : List ByteArray))).bind fun bt214 => (some (bt214.1, bt214.2.1, bt214.2.2.1, bt214.2.2.2))) else (some (0, ([] : List (S35)), 0, 80)))) = some (r1, r2, r3, r4) := by rw [if_pos rfl] at H; exact H
    clear H
    have H := H1
    clear H1
    replace H := Option.bind_eq_some_iff.mp H
    obtain ⟨⟨t205, t206, t207, t208, t209⟩, A50, H⟩ := H
    replace H : (if t209 = true then ((watchmanref21_Send.f k a0_0 l0_1 t206 t207 (([t208] : List ByteArray))).bind fun bt214 => (some (bt214.1, bt214.2.1, bt214.2.2.1, bt214.2.2.2))) else (some (0, ([] : List (S35)), 0, 80))) = some (r1, r2, r3, r4) := H
    have A5 := Aside0.mk A50
    clear A50
    by_cases c6 : t209 = true
    · subst c6
      have H1 : ((watchmanref21_Send.f k a0_0 l0_1 t206 t207 (([t208] : List ByteArray))).bind fun bt214 => (some (bt214.1, bt214.2.1, bt214.2.2.1, bt214.2.2.2))) = some (r1, r2, r3, r4) := by rw [if_pos rfl] at H; exact H
      clear H
      have H := H1
      clear H1
      obtain ⟨y211, hy211⟩ : ∃ y_ : List ByteArray, y_ = (([t208] : List ByteArray)) := ⟨_, rfl⟩
      replace H : ((watchmanref21_Send.f k a0_0 l0_1 t206 t207 y211).bind fun bt214 => (some (bt214.1, bt214.2.1, bt214.2.2.1, bt214.2.2.2))) = some (r1, r2, r3, r4) := by first | (rw [hy211]; with_reducible exact H) | (have H2_ := (Option.bind_some _ _).symm.trans H; rw [hy211]; with_reducible exact H2_) | (have H2_ := (Option.bind_some _ _).symm.trans H; with_reducible exact H2_) | with_reducible exact H | (rw [hy211]; exact H) | exact H
      have Ny211 := Aside0.mk hy211
      clear hy211
      replace H := Option.bind_eq_some_iff.mp H
      obtain ⟨⟨t214, t215, t218, t219⟩, A70, H⟩ := H
      replace H : (some (t214, t215, t218, t219)) = some (r1, r2, r3, r4) := H
      have A7 := Aside0.mk A70
      clear A70
      simp only [Option.some.injEq, Prod.mk.injEq] at H
      obtain ⟨rfl, rfl, rfl, rfl⟩ := H
      go_enter Try.func16, Try.ntmps16
      go_wp2_with (first | ((with_reducible refine gate_dst (N := 2) rfl ?_); refine box_event ?hg (N := 2) ?hd (cs := #[.int .i64 a0_0, .slice A0_1 l0_1.length c0_1]) (t := 24) ?hr ?_; (case hd => rfl); (case hg => rfl); (case hr => first | (go_simp; done) | (go_simp; rfl)); intro gb202 hg w8 hbox hb; have BK202 := Aside0.mk (hbox); have GW202 := Aside0.mk ((by rw [hg]; exact (below_size HB.out) : w.heap.size ≤ gb202)); have GE202 := Aside0.mk ((by rw [hg]; exact (below_size HB.out) : w.heap.size ≤ gb202)); replace HB := Aside0.mk (below_step HB.out hb); clear hb hbox hg) | ((with_reducible refine gate_dst (N := 4) rfl ?_); refine box_event ?hg (N := 4) ?hd (cs := #[.int .i64 0, .slice none 0 0]) (t := 24) ?hr ?_; (case hd => rfl); (case hg => rfl); (case hr => first | (go_simp; done) | (go_simp; rfl)); intro gb203 hg w9 hbox hb; have BK203 := Aside0.mk (hbox); have GW203 := Aside0.mk ((by rw [hg]; exact (below_size (by repeat (with_reducible first | exact HB.out | apply pw_below_drewN | apply below_drew1 | refine below_set ?_ GE202.out))) : w.heap.size ≤ gb203)); have GE203 := Aside0.mk ((by rw [hg]; exact (below_size (by repeat (with_reducible first | exact HB.out | apply pw_below_drewN | apply below_drew1 | refine below_set ?_ GE202.out))) : w.heap.size ≤ gb203)); replace HB := Aside0.mk (below_step (by repeat (with_reducible first | exact HB.out | apply pw_below_drewN | apply below_drew1 | refine below_set ?_ GE202.out)) hb); have NB202_203 := Aside0.mk ((by rw [hg]; exact Nat.ne_of_lt (blk_lt BK202.out) : gb202 ≠ gb203)); have NB203_202 := Aside0.mk ((by rw [hg]; exact Nat.ne_of_gt (blk_lt BK202.out) : gb203 ≠ gb202)); replace BK202 := bl_ BK202 hb; clear hb hbox hg; have hnb10 := NB202_203.out; have hnc10 := NB203_202.out; have hcz11_0 : w9.cell? ⟨gb202, 0, none⟩ = some (.int .i64 a0_0) := (blk_cell BK202.out 0).trans rfl; have hcz11_1 : w9.cell? ⟨gb202, 1, none⟩ = some (.slice A0_1 l0_1.length c0_1) := (blk_cell BK202.out 1).trans rfl; have hfz11_0 := blk_frozen BK202.out 0; have hfz11_1 := blk_frozen BK202.out 1) | ((with_reducible refine gate_callee (f := 26) rfl ?_); refine goesL_ (some 13) rfl rfl Try.func26 (by kernel_rfl) rfl #[.agg #[.int .i64 a0_0, .slice A0_1 l0_1.length c0_1]] rfl (by (try simp only [List.map_toArray, List.map_cons, List.map_nil]); first | done | rfl | (simp only [List.length_drop, List.length_take]; rfl)) ?_; (with_reducible refine (watchmanref21_Is.calls k a0_0 _ _ l0_1 true _ ?side1 ?side2 A3.out).mono ?_); (case side1 => exact (Kd.C_below HR0_1.out HB.out)); (case side2 => exact HC0_1.out); rintro e w12 ⟨rfl, hb⟩; refine ⟨_, rfl, ?_⟩; replace BK202 := bl_ BK202 hb; replace BK203 := bl_ BK203 hb; replace HB := Aside0.mk (below_step (by repeat (with_reducible first | exact HB.out | apply pw_below_drewN | apply below_drew1 | refine below_set ?_ (Aside0.out (by assumption)))) hb); (try clear hb); (try clear hb2); (try clear hk); (try clear hi); have hcz13_0 : w12.cell? ⟨gb202, 0, none⟩ = some (.int .i64 a0_0) := (blk_cell BK202.out 0).trans rfl; have hcz13_1 : w12.cell? ⟨gb202, 1, none⟩ = some (.slice A0_1 l0_1.length c0_1) := (blk_cell BK202.out 1).trans rfl; have hfz13_0 := blk_frozen BK202.out 0; have hfz13_1 := blk_frozen BK202.out 1) | ((with_reducible refine gate_callee (f := 36) rfl ?_); refine goesL_ (some 19) rfl rfl Try.func36 (by kernel_rfl) rfl #[.agg #[.int .i64 a0_0, .slice A0_1 l0_1.length c0_1], .int .i64 a1] rfl (by (try simp only [List.map_toArray, List.map_cons, List.map_nil]); first | done | rfl | (simp only [List.length_drop, List.length_take]; rfl)) ?_; (with_reducible refine (watchmanref21_find.calls k a0_0 _ _ l0_1 a1 t205 t206 t207 t208 true _ ?side1 ?side2 A5.out).mono ?_); (case side1 => exact (Kd.C_below HR0_1.out HB.out)); (case side2 => exact HC0_1.out); rintro e w14 ⟨rfl, hb⟩; refine ⟨_, rfl, ?_⟩; replace BK202 := bl_ BK202 hb; replace BK203 := bl_ BK203 hb; replace HB := Aside0.mk (below_step (by repeat (with_reducible first | exact HB.out | apply pw_below_drewN | apply below_drew1 | refine below_set ?_ (Aside0.out (by assumption)))) hb); (try clear hb); (try clear hb2); (try clear hk); (try clear hi)) | ((with_reducible refine gate_dst (N := 7) rfl ?_); refine box_event ?hg (N := 7) ?hd (cs := #[.int .i64 0, .int .i64 0, .int .i64 0, .string (⟨#[]⟩ : ByteArray)]) (t := 35) ?hr ?_; (case hd => rfl); (case hg => rfl); (case hr => first | (go_simp; done) | (go_simp; rfl)); intro gb210 hg w15 hbox hb; have BK210 := Aside0.mk (hbox); have GW210 := Aside0.mk ((by rw [hg]; exact (below_size (by repeat (with_reducible first | exact HB.out | apply pw_below_drewN | apply below_drew1 | refine below_set ?_ (Aside0.out (by assumption))))) : w.heap.size ≤ gb210)); have GE210 := Aside0.mk ((by rw [hg]; exact (below_size (by repeat (with_reducible first | exact HB.out | apply pw_below_drewN | apply below_drew1 | refine below_set ?_ (Aside0.out (by assumption))))) : w.heap.size ≤ gb210)); replace HB := Aside0.mk (below_step (by repeat (with_reducible first | exact HB.out | apply pw_below_drewN | apply below_drew1 | refine below_set ?_ (Aside0.out (by assumption)))) hb); have NB202_210 := Aside0.mk ((by rw [hg]; exact Nat.ne_of_lt (blk_lt BK202.out) : gb202 ≠ gb210)); have NB210_202 := Aside0.mk ((by rw [hg]; exact Nat.ne_of_gt (blk_lt BK202.out) : gb210 ≠ gb202)); replace BK202 := bl_ BK202 hb; have NB203_210 := Aside0.mk ((by rw [hg]; exact Nat.ne_of_lt (blk_lt BK203.out) : gb203 ≠ gb210)); have NB210_203 := Aside0.mk ((by rw [hg]; exact Nat.ne_of_gt (blk_lt BK203.out) : gb210 ≠ gb203)); replace BK203 := bl_ BK203 hb; clear hb hbox hg; have hnb16 := NB210_202.out; have hnc16 := NB202_210.out; have hnb17 := NB210_203.out; have hnc17 := NB203_210.out; have hcz18_0 : w15.cell? ⟨gb210, 0, none⟩ = some (.int .i64 0) := (blk_cell BK210.out 0).trans rfl; have hcz18_1 : w15.cell? ⟨gb210, 1, none⟩ = some (.int .i64 0) := (blk_cell BK210.out 1).trans rfl; have hcz18_2 : w15.cell? ⟨gb210, 2, none⟩ = some (.int .i64 0) := (blk_cell BK210.out 2).trans rfl; have hcz18_3 : w15.cell? ⟨gb210, 3, none⟩ = some (.string (⟨#[]⟩ : ByteArray)) := (blk_cell BK210.out 3).trans rfl; have hfz18_0 := blk_frozen BK210.out 0; have hfz18_1 := blk_frozen BK210.out 1; have hfz18_2 := blk_frozen BK210.out 2; have hfz18_3 := blk_frozen BK210.out 3; have hcz19_0 : w15.cell? ⟨gb202, 0, none⟩ = some (.int .i64 a0_0) := (blk_cell BK202.out 0).trans rfl; have hcz19_1 : w15.cell? ⟨gb202, 1, none⟩ = some (.slice A0_1 l0_1.length c0_1) := (blk_cell BK202.out 1).trans rfl; have hfz19_0 := blk_frozen BK202.out 0; have hfz19_1 := blk_frozen BK202.out 1) | ((with_reducible refine gate_dst (N := 33) rfl ?_); refine Kd.R_lit Kd.string _ 9 ?hg (N := 33) ?hd (xs := ([t208] : List ByteArray)) (inner := [.string t208]) (ok := fun _ => True) (okp := fun _ => True) ?hr ?hp (fun _ hk => hk) trivial (Below.refl _ _) (Nat.le_refl _) (by simp) ?_; (case hd => rfl); (case hg => rfl); (case hr => first | (go_simp; done) | (go_simp; rfl)); (case hp => exact (Reps.one (show Kd.M Kd.string _ _ _ t208 [.string t208] from rfl) (Reps.none _ _))); intro v212 w20 ho21 hb hg_ hnew_; clear hg_ hnew_; (first | rw [← Ny211.out] at ho21 | (simp only [Int.reduceToNat] at ho21; rw [← Ny211.out] at ho21)); have HO213 := Aside0.mk (Kd.R_lower ho21 (below_size (by repeat (with_reducible first | exact HB.out | apply pw_below_drewN | apply below_drew1 | refine below_set ?_ (Aside0.out (by assumption)))))); replace BK202 := Aside0.mk (blk_below (g := gb202) (o := .cells #[.int .i64 a0_0, .slice A0_1 l0_1.length c0_1] 24 (0, 0)) (by refine blk_far ?_ NB202_210.out _; refine blk_far ?_ NB202_210.out _; refine blk_far ?_ NB202_210.out _; refine blk_far ?_ NB202_210.out _; exact BK202.out) hb); replace BK203 := Aside0.mk (blk_below (g := gb203) (o := .cells #[.int .i64 0, .slice none 0 0] 24 (0, 0)) (by refine blk_far ?_ NB203_210.out _; refine blk_far ?_ NB203_210.out _; refine blk_far ?_ NB203_210.out _; refine blk_far ?_ NB203_210.out _; exact BK203.out) hb); replace BK210 := Aside0.mk (blk_below (g := gb210) (o := .cells #[.int .i64 t205, .int .i64 t206, .int .i64 t207, .string t208] 35 (0, 0)) (by refine blk_put (cs := #[.int .i64 t205, .int .i64 t206, .int .i64 t207, .string (⟨#[]⟩ : ByteArray)]) ?_ 3 _ rfl; refine blk_put (cs := #[.int .i64 t205, .int .i64 t206, .int .i64 0, .string (⟨#[]⟩ : ByteArray)]) ?_ 2 _ rfl; refine blk_put (cs := #[.int .i64 t205, .int .i64 0, .int .i64 0, .string (⟨#[]⟩ : ByteArray)]) ?_ 1 _ rfl; refine blk_put (cs := #[.int .i64 0, .int .i64 0, .int .i64 0, .string (⟨#[]⟩ : ByteArray)]) ?_ 0 _ rfl; exact BK210.out) hb); replace HB := Aside0.mk (below_step (by repeat (with_reducible first | exact HB.out | apply pw_below_drewN | apply below_drew1 | refine below_set ?_ (Aside0.out (by assumption)))) hb); clear hb ho21; obtain ⟨Ao22, co22, eo22⟩ := Kd.R_slice HO213.out; subst eo22) | ((with_reducible refine gate_callee (f := 11) rfl ?_); refine goesL_ (some 34) rfl rfl Try.func11 (by kernel_rfl) rfl #[.agg #[.int .i64 a0_0, .slice A0_1 l0_1.length c0_1], .int .i64 t206, .int .i64 t207, .slice Ao22 y211.length co22] rfl (by (try simp only [List.map_toArray, List.map_cons, List.map_nil]); first | done | rfl | (simp only [List.length_drop, List.length_take]; rfl)) ?_; (with_reducible refine (watchmanref21_Send.calls k a0_0 _ _ l0_1 t206 t207 _ _ y211 t214 t215 t218 t219 _ ?side1 ?side2 ?side3 ?side4 A7.out).mono ?_); (case side1 => exact (Kd.C_below HR0_1.out HB.out)); (case side2 => exact HC0_1.out); (case side3 => repeat (first | exact (Kd.R_reads' HO213.out).2.2 | (with_reducible refine Kd.C_alloc ?_ _) | (with_reducible refine Kd.C_drewN ?_ _) | (with_reducible refine Kd.C_drew ?_))); (case side4 => exact (Kd.R_reads' HO213.out).2.1); rintro e w23 ⟨v216, rfl, ho0, hb⟩; refine ⟨_, rfl, ?_⟩; replace HO213 := rb_ HO213 hb; have HO217 := Aside0.mk (Kd.R_lower (Kd.R_newB ho0 (g := gb210) (o := .cells #[.int .i64 t205, .int .i64 t206, .int .i64 t207, .string t208] 35 (0, 0)) BK210.out) (below_size (by repeat (with_reducible first | exact HB.out | apply pw_below_drewN | apply below_drew1 | refine below_set ?_ (Aside0.out (by assumption)))))); replace BK202 := bl_ BK202 hb; replace BK203 := bl_ BK203 hb; replace BK210 := bl_ BK210 hb; replace HB := Aside0.mk (below_step (by repeat (with_reducible first | exact HB.out | apply pw_below_drewN | apply below_drew1 | refine below_set ?_ (Aside0.out (by assumption)))) hb); (try clear hb); (try clear hb2); (try clear hk); (try clear hi); (try clear ho0)) | ((with_reducible refine gate_dst (N := 9) rfl ?_); refine box_event ?hg (N := 9) ?hd (cs := #[.int .i64 0, .slice none 0 0]) (t := 24) ?hr ?_; (case hd => rfl); (case hg => rfl); (case hr => first | (go_simp; done) | (go_simp; rfl)); intro gb220 hg w24 hbox hb; replace HO213 := rb_ HO213 hb; replace HO217 := rb_ HO217 hb; have BK220 := Aside0.mk (hbox); have GW220 := Aside0.mk ((by rw [hg]; exact (below_size (by repeat (with_reducible first | exact HB.out | apply pw_below_drewN | apply below_drew1 | refine below_set ?_ (Aside0.out (by assumption))))) : w.heap.size ≤ gb220)); have GE220 := Aside0.mk ((by rw [hg]; exact (below_size (by repeat (with_reducible first | exact HB.out | apply pw_below_drewN | apply below_drew1 | refine below_set ?_ (Aside0.out (by assumption))))) : w.heap.size ≤ gb220)); replace HB := Aside0.mk (below_step (by repeat (with_reducible first | exact HB.out | apply pw_below_drewN | apply below_drew1 | refine below_set ?_ (Aside0.out (by assumption)))) hb); have NB202_220 := Aside0.mk ((by rw [hg]; exact Nat.ne_of_lt (blk_lt BK202.out) : gb202 ≠ gb220)); have NB220_202 := Aside0.mk ((by rw [hg]; exact Nat.ne_of_gt (blk_lt BK202.out) : gb220 ≠ gb202)); replace BK202 := bl_ BK202 hb; have NB203_220 := Aside0.mk ((by rw [hg]; exact Nat.ne_of_lt (blk_lt BK203.out) : gb203 ≠ gb220)); have NB220_203 := Aside0.mk ((by rw [hg]; exact Nat.ne_of_gt (blk_lt BK203.out) : gb220 ≠ gb203)); replace BK203 := bl_ BK203 hb; have NB210_220 := Aside0.mk ((by rw [hg]; exact Nat.ne_of_lt (blk_lt BK210.out) : gb210 ≠ gb220)); have NB220_210 := Aside0.mk ((by rw [hg]; exact Nat.ne_of_gt (blk_lt BK210.out) : gb220 ≠ gb210)); replace BK210 := bl_ BK210 hb; clear hb hbox hg; have hnb25 := NB220_202.out; have hnc25 := NB202_220.out; have hnb26 := NB220_203.out; have hnc26 := NB203_220.out; have hnb27 := NB220_210.out; have hnc27 := NB210_220.out; have hcz28_0 : w24.cell? ⟨gb220, 0, none⟩ = some (.int .i64 0) := (blk_cell BK220.out 0).trans rfl; have hcz28_1 : w24.cell? ⟨gb220, 1, none⟩ = some (.slice none 0 0) := (blk_cell BK220.out 1).trans rfl; have hfz28_0 := blk_frozen BK220.out 0; have hfz28_1 := blk_frozen BK220.out 1; obtain ⟨Ao29, co29, eo29⟩ := Kd.R_slice HO217.out; subst eo29; have hcz30_0 : w24.cell? ⟨gb203, 0, none⟩ = some (.int .i64 0) := (blk_cell BK203.out 0).trans rfl; have hcz30_1 : w24.cell? ⟨gb203, 1, none⟩ = some (.slice none 0 0) := (blk_cell BK203.out 1).trans rfl; have hfz30_0 := blk_frozen BK203.out 0; have hfz30_1 := blk_frozen BK203.out 1))
      refine bodyPost_ret (results_ctt rfl _ _ gb203 24 #[.int .i64 t214, .slice Ao29 t215.length co29] (0, 0) _ rfl (by refine blk_put (cs := #[.int .i64 t214, .slice none 0 0]) ?_ 1 _ rfl; refine blk_put (cs := #[.int .i64 0, .slice none 0 0]) ?_ 0 _ rfl; refine blk_far ?_ NB203_220.out _; refine blk_far ?_ NB203_220.out _; exact BK203.out) Try.underlying24 rfl (by kernel_rfl)) rfl ?_
      exact ⟨_, by first | rfl | (simp [errW_none, errW_some] <;> rfl) | (simp [*, errW_none, errW_some] <;> rfl), by (with_reducible repeat (first | apply Kd.R_alloc | apply Kd.R_drewN | apply Kd.R_drew)); exact Kd.R_mono (rf2 (rf2 (Kd.R_types (Kd.R_types HO217.out BK220.out (by decide)) BK203.out (by decide)) (fun _ hk => hk.1.2) (.int .i64 t214) (.slice Ao29 t215.length co29)) (fun _ hk => hk.2) (.int .i64 t214) (.slice Ao29 t215.length co29)) (fun _ hk => trivial), by repeat (with_reducible first | exact HB.out | apply pw_below_drewN | apply below_drew1 | refine below_set ?_ (Aside0.out (by assumption)))⟩
    · replace c6 := Bool.eq_false_iff.mpr c6
      subst c6
      have H1 : (some (0, ([] : List (S35)), 0, 80)) = some (r1, r2, r3, r4) := by rw [if_neg (show ¬ (false = true) by decide)] at H; exact H
      clear H
      have H := H1
      clear H1
      simp only [Option.some.injEq, Prod.mk.injEq] at H
      obtain ⟨rfl, rfl, rfl, rfl⟩ := H
      go_enter Try.func16, Try.ntmps16
      go_wp2_with (first | ((with_reducible refine gate_dst (N := 2) rfl ?_); refine box_event ?hg (N := 2) ?hd (cs := #[.int .i64 a0_0, .slice A0_1 l0_1.length c0_1]) (t := 24) ?hr ?_; (case hd => rfl); (case hg => rfl); (case hr => first | (go_simp; done) | (go_simp; rfl)); intro gb202 hg w31 hbox hb; have BK202 := Aside0.mk (hbox); have GW202 := Aside0.mk ((by rw [hg]; exact (below_size HB.out) : w.heap.size ≤ gb202)); have GE202 := Aside0.mk ((by rw [hg]; exact (below_size HB.out) : w.heap.size ≤ gb202)); replace HB := Aside0.mk (below_step HB.out hb); clear hb hbox hg) | ((with_reducible refine gate_dst (N := 4) rfl ?_); refine box_event ?hg (N := 4) ?hd (cs := #[.int .i64 0, .slice none 0 0]) (t := 24) ?hr ?_; (case hd => rfl); (case hg => rfl); (case hr => first | (go_simp; done) | (go_simp; rfl)); intro gb203 hg w32 hbox hb; have BK203 := Aside0.mk (hbox); have GW203 := Aside0.mk ((by rw [hg]; exact (below_size (by repeat (with_reducible first | exact HB.out | apply pw_below_drewN | apply below_drew1 | refine below_set ?_ GE202.out))) : w.heap.size ≤ gb203)); have GE203 := Aside0.mk ((by rw [hg]; exact (below_size (by repeat (with_reducible first | exact HB.out | apply pw_below_drewN | apply below_drew1 | refine below_set ?_ GE202.out))) : w.heap.size ≤ gb203)); replace HB := Aside0.mk (below_step (by repeat (with_reducible first | exact HB.out | apply pw_below_drewN | apply below_drew1 | refine below_set ?_ GE202.out)) hb); have NB202_203 := Aside0.mk ((by rw [hg]; exact Nat.ne_of_lt (blk_lt BK202.out) : gb202 ≠ gb203)); have NB203_202 := Aside0.mk ((by rw [hg]; exact Nat.ne_of_gt (blk_lt BK202.out) : gb203 ≠ gb202)); replace BK202 := bl_ BK202 hb; clear hb hbox hg; have hnb33 := NB202_203.out; have hnc33 := NB203_202.out; have hcz34_0 : w32.cell? ⟨gb202, 0, none⟩ = some (.int .i64 a0_0) := (blk_cell BK202.out 0).trans rfl; have hcz34_1 : w32.cell? ⟨gb202, 1, none⟩ = some (.slice A0_1 l0_1.length c0_1) := (blk_cell BK202.out 1).trans rfl; have hfz34_0 := blk_frozen BK202.out 0; have hfz34_1 := blk_frozen BK202.out 1) | ((with_reducible refine gate_callee (f := 26) rfl ?_); refine goesL_ (some 13) rfl rfl Try.func26 (by kernel_rfl) rfl #[.agg #[.int .i64 a0_0, .slice A0_1 l0_1.length c0_1]] rfl (by (try simp only [List.map_toArray, List.map_cons, List.map_nil]); first | done | rfl | (simp only [List.length_drop, List.length_take]; rfl)) ?_; (with_reducible refine (watchmanref21_Is.calls k a0_0 _ _ l0_1 true _ ?side1 ?side2 A3.out).mono ?_); (case side1 => exact (Kd.C_below HR0_1.out HB.out)); (case side2 => exact HC0_1.out); rintro e w35 ⟨rfl, hb⟩; refine ⟨_, rfl, ?_⟩; replace BK202 := bl_ BK202 hb; replace BK203 := bl_ BK203 hb; replace HB := Aside0.mk (below_step (by repeat (with_reducible first | exact HB.out | apply pw_below_drewN | apply below_drew1 | refine below_set ?_ (Aside0.out (by assumption)))) hb); (try clear hb); (try clear hb2); (try clear hk); (try clear hi); have hcz36_0 : w35.cell? ⟨gb202, 0, none⟩ = some (.int .i64 a0_0) := (blk_cell BK202.out 0).trans rfl; have hcz36_1 : w35.cell? ⟨gb202, 1, none⟩ = some (.slice A0_1 l0_1.length c0_1) := (blk_cell BK202.out 1).trans rfl; have hfz36_0 := blk_frozen BK202.out 0; have hfz36_1 := blk_frozen BK202.out 1) | ((with_reducible refine gate_callee (f := 36) rfl ?_); refine goesL_ (some 19) rfl rfl Try.func36 (by kernel_rfl) rfl #[.agg #[.int .i64 a0_0, .slice A0_1 l0_1.length c0_1], .int .i64 a1] rfl (by (try simp only [List.map_toArray, List.map_cons, List.map_nil]); first | done | rfl | (simp only [List.length_drop, List.length_take]; rfl)) ?_; (with_reducible refine (watchmanref21_find.calls k a0_0 _ _ l0_1 a1 t205 t206 t207 t208 false _ ?side1 ?side2 A5.out).mono ?_); (case side1 => exact (Kd.C_below HR0_1.out HB.out)); (case side2 => exact HC0_1.out); rintro e w37 ⟨rfl, hb⟩; refine ⟨_, rfl, ?_⟩; replace BK202 := bl_ BK202 hb; replace BK203 := bl_ BK203 hb; replace HB := Aside0.mk (below_step (by repeat (with_reducible first | exact HB.out | apply pw_below_drewN | apply below_drew1 | refine below_set ?_ (Aside0.out (by assumption)))) hb); (try clear hb); (try clear hb2); (try clear hk); (try clear hi)) | ((with_reducible refine gate_dst (N := 7) rfl ?_); refine box_event ?hg (N := 7) ?hd (cs := #[.int .i64 0, .int .i64 0, .int .i64 0, .string (⟨#[]⟩ : ByteArray)]) (t := 35) ?hr ?_; (case hd => rfl); (case hg => rfl); (case hr => first | (go_simp; done) | (go_simp; rfl)); intro gb210 hg w38 hbox hb; have BK210 := Aside0.mk (hbox); have GW210 := Aside0.mk ((by rw [hg]; exact (below_size (by repeat (with_reducible first | exact HB.out | apply pw_below_drewN | apply below_drew1 | refine below_set ?_ (Aside0.out (by assumption))))) : w.heap.size ≤ gb210)); have GE210 := Aside0.mk ((by rw [hg]; exact (below_size (by repeat (with_reducible first | exact HB.out | apply pw_below_drewN | apply below_drew1 | refine below_set ?_ (Aside0.out (by assumption))))) : w.heap.size ≤ gb210)); replace HB := Aside0.mk (below_step (by repeat (with_reducible first | exact HB.out | apply pw_below_drewN | apply below_drew1 | refine below_set ?_ (Aside0.out (by assumption)))) hb); have NB202_210 := Aside0.mk ((by rw [hg]; exact Nat.ne_of_lt (blk_lt BK202.out) : gb202 ≠ gb210)); have NB210_202 := Aside0.mk ((by rw [hg]; exact Nat.ne_of_gt (blk_lt BK202.out) : gb210 ≠ gb202)); replace BK202 := bl_ BK202 hb; have NB203_210 := Aside0.mk ((by rw [hg]; exact Nat.ne_of_lt (blk_lt BK203.out) : gb203 ≠ gb210)); have NB210_203 := Aside0.mk ((by rw [hg]; exact Nat.ne_of_gt (blk_lt BK203.out) : gb210 ≠ gb203)); replace BK203 := bl_ BK203 hb; clear hb hbox hg; have hnb39 := NB210_202.out; have hnc39 := NB202_210.out; have hnb40 := NB210_203.out; have hnc40 := NB203_210.out; have hcz41_0 : w38.cell? ⟨gb210, 0, none⟩ = some (.int .i64 0) := (blk_cell BK210.out 0).trans rfl; have hcz41_1 : w38.cell? ⟨gb210, 1, none⟩ = some (.int .i64 0) := (blk_cell BK210.out 1).trans rfl; have hcz41_2 : w38.cell? ⟨gb210, 2, none⟩ = some (.int .i64 0) := (blk_cell BK210.out 2).trans rfl; have hcz41_3 : w38.cell? ⟨gb210, 3, none⟩ = some (.string (⟨#[]⟩ : ByteArray)) := (blk_cell BK210.out 3).trans rfl; have hfz41_0 := blk_frozen BK210.out 0; have hfz41_1 := blk_frozen BK210.out 1; have hfz41_2 := blk_frozen BK210.out 2; have hfz41_3 := blk_frozen BK210.out 3; have hcz42_0 : w38.cell? ⟨gb203, 0, none⟩ = some (.int .i64 0) := (blk_cell BK203.out 0).trans rfl; have hcz42_1 : w38.cell? ⟨gb203, 1, none⟩ = some (.slice none 0 0) := (blk_cell BK203.out 1).trans rfl; have hfz42_0 := blk_frozen BK203.out 0; have hfz42_1 := blk_frozen BK203.out 1))
      refine bodyPost_ret (results_ctt rfl _ _ gb203 24 #[.int .i64 0, .slice none 0 0] (0, 0) _ rfl (by refine blk_put (cs := #[.int .i64 0, .slice none 0 0]) ?_ 1 _ rfl; refine blk_put (cs := #[.int .i64 0, .slice none 0 0]) ?_ 0 _ rfl; refine blk_far ?_ NB203_210.out _; refine blk_far ?_ NB203_210.out _; refine blk_far ?_ NB203_210.out _; refine blk_far ?_ NB203_210.out _; exact BK203.out) Try.underlying24 rfl (by kernel_rfl)) rfl ?_
      exact ⟨_, by first | rfl | (simp [errW_none, errW_some] <;> rfl) | (simp [*, errW_none, errW_some] <;> rfl), by first | exact Kd.R_nil _ _ _ _ _ | exact Kd.N_nil _ _ _ _ _ | exact Kd.V_nil _ _ _ _ _ | exact Kd.Q_nil _ _ _ _ _ | exact Kd.S_nil _ _ _ _ _, by repeat (with_reducible first | exact HB.out | apply pw_below_drewN | apply below_drew1 | refine below_set ?_ (Aside0.out (by assumption)))⟩
  · replace c4 := Bool.eq_false_iff.mpr c4
    subst c4
    have H1 : (some (0, ([] : List (S35)), 0, 1)) = some (r1, r2, r3, r4) := by rw [if_neg (show ¬ (false = true) by decide)] at H; exact H
    clear H
    have H := H1
    clear H1
    simp only [Option.some.injEq, Prod.mk.injEq] at H
    obtain ⟨rfl, rfl, rfl, rfl⟩ := H
    go_enter Try.func16, Try.ntmps16
    go_wp2_with (first | ((with_reducible refine gate_dst (N := 2) rfl ?_); refine box_event ?hg (N := 2) ?hd (cs := #[.int .i64 a0_0, .slice A0_1 l0_1.length c0_1]) (t := 24) ?hr ?_; (case hd => rfl); (case hg => rfl); (case hr => first | (go_simp; done) | (go_simp; rfl)); intro gb202 hg w43 hbox hb; have BK202 := Aside0.mk (hbox); have GW202 := Aside0.mk ((by rw [hg]; exact (below_size HB.out) : w.heap.size ≤ gb202)); have GE202 := Aside0.mk ((by rw [hg]; exact (below_size HB.out) : w.heap.size ≤ gb202)); replace HB := Aside0.mk (below_step HB.out hb); clear hb hbox hg) | ((with_reducible refine gate_dst (N := 4) rfl ?_); refine box_event ?hg (N := 4) ?hd (cs := #[.int .i64 0, .slice none 0 0]) (t := 24) ?hr ?_; (case hd => rfl); (case hg => rfl); (case hr => first | (go_simp; done) | (go_simp; rfl)); intro gb203 hg w44 hbox hb; have BK203 := Aside0.mk (hbox); have GW203 := Aside0.mk ((by rw [hg]; exact (below_size (by repeat (with_reducible first | exact HB.out | apply pw_below_drewN | apply below_drew1 | refine below_set ?_ GE202.out))) : w.heap.size ≤ gb203)); have GE203 := Aside0.mk ((by rw [hg]; exact (below_size (by repeat (with_reducible first | exact HB.out | apply pw_below_drewN | apply below_drew1 | refine below_set ?_ GE202.out))) : w.heap.size ≤ gb203)); replace HB := Aside0.mk (below_step (by repeat (with_reducible first | exact HB.out | apply pw_below_drewN | apply below_drew1 | refine below_set ?_ GE202.out)) hb); have NB202_203 := Aside0.mk ((by rw [hg]; exact Nat.ne_of_lt (blk_lt BK202.out) : gb202 ≠ gb203)); have NB203_202 := Aside0.mk ((by rw [hg]; exact Nat.ne_of_gt (blk_lt BK202.out) : gb203 ≠ gb202)); replace BK202 := bl_ BK202 hb; clear hb hbox hg; have hnb45 := NB202_203.out; have hnc45 := NB203_202.out; have hcz46_0 : w44.cell? ⟨gb202, 0, none⟩ = some (.int .i64 a0_0) := (blk_cell BK202.out 0).trans rfl; have hcz46_1 : w44.cell? ⟨gb202, 1, none⟩ = some (.slice A0_1 l0_1.length c0_1) := (blk_cell BK202.out 1).trans rfl; have hfz46_0 := blk_frozen BK202.out 0; have hfz46_1 := blk_frozen BK202.out 1) | ((with_reducible refine gate_callee (f := 26) rfl ?_); refine goesL_ (some 13) rfl rfl Try.func26 (by kernel_rfl) rfl #[.agg #[.int .i64 a0_0, .slice A0_1 l0_1.length c0_1]] rfl (by (try simp only [List.map_toArray, List.map_cons, List.map_nil]); first | done | rfl | (simp only [List.length_drop, List.length_take]; rfl)) ?_; (with_reducible refine (watchmanref21_Is.calls k a0_0 _ _ l0_1 false _ ?side1 ?side2 A3.out).mono ?_); (case side1 => exact (Kd.C_below HR0_1.out HB.out)); (case side2 => exact HC0_1.out); rintro e w47 ⟨rfl, hb⟩; refine ⟨_, rfl, ?_⟩; replace BK202 := bl_ BK202 hb; replace BK203 := bl_ BK203 hb; replace HB := Aside0.mk (below_step (by repeat (with_reducible first | exact HB.out | apply pw_below_drewN | apply below_drew1 | refine below_set ?_ (Aside0.out (by assumption)))) hb); (try clear hb); (try clear hb2); (try clear hk); (try clear hi); have hcz48_0 : w47.cell? ⟨gb203, 0, none⟩ = some (.int .i64 0) := (blk_cell BK203.out 0).trans rfl; have hcz48_1 : w47.cell? ⟨gb203, 1, none⟩ = some (.slice none 0 0) := (blk_cell BK203.out 1).trans rfl; have hfz48_0 := blk_frozen BK203.out 0; have hfz48_1 := blk_frozen BK203.out 1))
    refine bodyPost_ret (results_ctt rfl _ _ gb203 24 #[.int .i64 0, .slice none 0 0] (0, 0) _ rfl (by refine blk_put (cs := #[.int .i64 0, .slice none 0 0]) ?_ 1 _ rfl; refine blk_put (cs := #[.int .i64 0, .slice none 0 0]) ?_ 0 _ rfl; exact BK203.out) Try.underlying24 rfl (by kernel_rfl)) rfl ?_
    exact ⟨_, by first | rfl | (simp [errW_none, errW_some] <;> rfl) | (simp [*, errW_none, errW_some] <;> rfl), by first | exact Kd.R_nil _ _ _ _ _ | exact Kd.N_nil _ _ _ _ _ | exact Kd.V_nil _ _ _ _ _ | exact Kd.Q_nil _ _ _ _ _ | exact Kd.S_nil _ _ _ _ _, by repeat (with_reducible first | exact HB.out | apply pw_below_drewN | apply below_drew1 | refine below_set ?_ (Aside0.out (by assumption)))⟩

/-! ### slices_Index_int_int: function 44 -/
def slices_Index_int_int.l0 : Nat → List Int → Int → Int → Int → Option (Int)
  | 0, _, _, _, _ => none
  | k + 1, x0, x1, x7, x8 => if x8 < x7 then (if 0 ≤ x8 then (if x8 < (x0.length : Int) then (if x1 = (rd x0 x8) then (some x8) else (slices_Index_int_int.l0 k x0 x1 x7 (wrap64 (x8 + 1)))) else (none)) else (none)) else (some (-1))
def slices_Index_int_int.f (k : Nat) (l0 : List Int) (a1 : Int) : Option (Int) := slices_Index_int_int.l0 k l0 a1 (l0.length : Int) 0
theorem slices_Index_int_int.mono_l : ∀ k, (∀ y0 y1 y2 y3, LeO (slices_Index_int_int.l0 k y0 y1 y2 y3) (slices_Index_int_int.l0 (k + 1) y0 y1 y2 y3))
  | 0 => fun _ _ _ _ r h => by simp [slices_Index_int_int.l0] at h
  | k + 1 => by
    have ih0 := slices_Index_int_int.mono_l k
    · intro y0 y1 y2 y3
      unfold slices_Index_int_int.l0
      repeat' first
      | (with_reducible exact ih0 _ _ _ _)
      | (with_reducible exact LeO.refl _)
      | (with_reducible exact LeO.none _)
      | (with_reducible refine LeO.ite ?_ ?_)
      | (with_reducible refine LeO.bind ?_ (fun _ => ?_))
      | exact ih0 _ _ _ _
      | exact LeO.none _
      | refine LeO.ite ?_ ?_
      | refine LeO.bind ?_ (fun _ => ?_)
theorem slices_Index_int_int.mono : ∀ a0 a1 k, LeO (slices_Index_int_int.f k a0 a1) (slices_Index_int_int.f (k + 1) a0 a1) := by
  intro a0 a1 k
  have ih0 := slices_Index_int_int.mono_l k
  unfold slices_Index_int_int.f
  repeat' first
      | (with_reducible exact ih0 _ _ _ _)
      | (with_reducible exact LeO.refl _)
      | (with_reducible exact LeO.none _)
      | (with_reducible refine LeO.ite ?_ ?_)
      | (with_reducible refine LeO.bind ?_ (fun _ => ?_))
      | exact ih0 _ _ _ _
      | exact LeO.none _
      | refine LeO.ite ?_ ?_
      | refine LeO.bind ?_ (fun _ => ?_)
set_option maxHeartbeats 8000000 in
set_option maxRecDepth 100000 in
theorem slices_Index_int_int.calls (k : Nat) (A0 : Option Addr) (c0 : Nat) (l0 : List Int) (a1 : Int) (r : Int) (w : World) (hr0 : Kd.C (Kd.int .i64) w A0 l0.length l0) (hc0 : l0.length ≤ c0) (h : slices_Index_int_int.f k l0 a1 = some r) :
    Calls Try.prog 44 #[.slice A0 l0.length c0, .int .i64 a1] w fun e w' => e = .returned (.int .i64 r) ∧ Drawn0 w w' := by
  have HR0 := Aside0.mk hr0
  have HC0 := Aside0.mk hc0
  clear hr0 hc0
  have H : (slices_Index_int_int.l0 k l0 a1 (l0.length : Int) 0) = some r := h
  clear h
  have H' := Aside0.mk H
  clear H
  go_enter Try.func44, Try.ntmps44
  go_wp2
  go_loopg [8] k (fun kq v8 w' => ∃ (x8_1 : Int), v8 = .int .i64 x8_1 ∧ Aside0 (slices_Index_int_int.l0 kq l0 a1 (l0.length : Int) x8_1 = some r) ∧ Aside0 (kq ≤ k) ∧ Drawn0 w w')
  case atStart => exact ⟨(0), (by first | rfl | (simp; done) | (simp [*]; done)), H', ⟨Nat.le_refl _⟩, by repeat (first | exact Drawn0.refl _ | apply Drawn0.step)⟩
  case round =>
    clear H'
    try clear p2
    obtain ⟨x8_1, rfl, HA, HK1, ⟨m1, rfl⟩⟩ := hrel
    cases gk with
    | zero => exact absurd HA.out (by simp [slices_Index_int_int.l0])
    | succ k1 =>
      have H := HA.out
      clear HA
      simp only [slices_Index_int_int.l0] at H
      by_cases c3 : x8_1 < (l0.length : Int)
      · rw [if_pos c3] at H
        have c3b0 : decide (x8_1 < (l0.length : Int)) = true := decide_eq_true c3
        clear c3
        by_cases c4 : 0 ≤ x8_1
        · rw [if_pos c4] at H
          have c4b0 : decide (0 ≤ x8_1) = true := decide_eq_true c4
          clear c4
          by_cases c5 : x8_1 < (l0.length : Int)
          · rw [if_pos c5] at H
            have c5b0 : decide (x8_1 < (l0.length : Int)) = true := decide_eq_true c5
            clear c5
            by_cases c6 : a1 = (rd l0 x8_1)
            · rw [if_pos c6] at H
              have c6b0 : (a1 == (rd l0 x8_1)) = true := beq_iff_eq.mpr c6
              have c6b1 : (a1 != (rd l0 x8_1)) = false := bne_eq_false_iff_eq.mpr c6
              clear c6
              obtain rfl := Option.some.inj H
              have p221 : 0 ≤ (x8_1 : Int) := of_decide_eq_true (by first | (with_reducible assumption) | assumption)
              have q221 : x8_1 < (l0.length : Int) := of_decide_eq_true (by first | (with_reducible assumption) | assumption)
              obtain ⟨ad221, e221, hx221_0⟩ := Kd.at_int HR0.out x8_1 p221 q221
              cases e221
              replace p221 := eq_true p221
              replace q221 := eq_true q221
              go_wp2
              go_ret
              exact ⟨by first | rfl | (simp; done) | (simp [*]; done), by repeat (first | exact Drawn0.refl _ | apply Drawn0.step)⟩
            · rw [if_neg c6] at H
              have c6b0 : (a1 == (rd l0 x8_1)) = false := beq_eq_false_iff_ne.mpr c6
              have c6b1 : (a1 != (rd l0 x8_1)) = true := bne_iff_ne.mpr c6
              have H' := Aside0.mk H
              clear H
              have p221 : 0 ≤ (x8_1 : Int) := of_decide_eq_true (by first | (with_reducible assumption) | assumption)
              have q221 : x8_1 < (l0.length : Int) := of_decide_eq_true (by first | (with_reducible assumption) | assumption)
              obtain ⟨ad221, e221, hx221_0⟩ := Kd.at_int HR0.out x8_1 p221 q221
              cases e221
              replace p221 := eq_true p221
              replace q221 := eq_true q221
              go_wp2
              go_roundg k1
              case measure => have := HK1.out; omega
              case rel => exact ⟨(wrap64 (x8_1 + 1)), (by first | rfl | (simp; done) | (simp [*]; done)), H', ⟨by have := HK1.out; omega⟩, by repeat (first | exact Drawn0.refl _ | apply Drawn0.step)⟩
          · rw [if_neg c5] at H
            exact absurd H (by simp)
        · rw [if_neg c4] at H
          exact absurd H (by simp)
      · rw [if_neg c3] at H
        have c3b0 : decide (x8_1 < (l0.length : Int)) = false := decide_eq_false c3
        clear c3
        obtain rfl := Option.some.inj H
        go_wp2
        go_ret
        exact ⟨by first | rfl | (simp; done) | (simp [*]; done), by repeat (first | exact Drawn0.refl _ | apply Drawn0.step)⟩

/-! ### slices_Contains_int_int: function 39 -/
def slices_Contains_int_int.f (k : Nat) (l0 : List Int) (a1 : Int) : Option (Bool) := (slices_Index_int_int.f k l0 a1).bind fun t222 => (some (decide (t222 ≥ 0)))
theorem slices_Contains_int_int.mono : ∀ a0 a1 k, LeO (slices_Contains_int_int.f k a0 a1) (slices_Contains_int_int.f (k + 1) a0 a1) := by
  intro a0 a1 k
  unfold slices_Contains_int_int.f
  repeat' first
      | (with_reducible exact slices_Index_int_int.mono _ _ _)
      | (with_reducible exact LeO.refl _)
      | (with_reducible exact LeO.none _)
      | (with_reducible refine LeO.ite ?_ ?_)
      | (with_reducible refine LeO.bind ?_ (fun _ => ?_))
      | exact slices_Index_int_int.mono _ _ _
      | exact LeO.none _
      | refine LeO.ite ?_ ?_
      | refine LeO.bind ?_ (fun _ => ?_)
set_option maxHeartbeats 8000000 in
set_option maxRecDepth 100000 in
theorem slices_Contains_int_int.calls (k : Nat) (A0 : Option Addr) (c0 : Nat) (l0 : List Int) (a1 : Int) (r : Bool) (w : World) (hr0 : Kd.C (Kd.int .i64) w A0 l0.length l0) (hc0 : l0.length ≤ c0) (h : slices_Contains_int_int.f k l0 a1 = some r) :
    Calls Try.prog 39 #[.slice A0 l0.length c0, .int .i64 a1] w fun e w' => e = .returned (.bool r) ∧ Drawn0 w w' := by
  have HR0 := Aside0.mk hr0
  have HC0 := Aside0.mk hc0
  clear hr0 hc0
  have H : ((slices_Index_int_int.f k l0 a1).bind fun t222 => (some (decide (t222 ≥ 0)))) = some r := h
  clear h
  replace H := Option.bind_eq_some_iff.mp H
  obtain ⟨t222, A30, H⟩ := H
  replace H : (some (decide (t222 ≥ 0))) = some r := H
  have A3 := Aside0.mk A30
  clear A30
  obtain rfl := Option.some.inj H
  go_enter Try.func39, Try.ntmps39
  go_wp2_with (first | ((with_reducible refine gate_callee (f := 44) rfl ?_); refine goesL_ (some 7) rfl rfl Try.func44 (by kernel_rfl) rfl #[.slice A0 l0.length c0, .int .i64 a1] rfl (by (try simp only [List.map_toArray, List.map_cons, List.map_nil]); first | done | rfl | (simp only [List.length_drop, List.length_take]; rfl)) ?_; (with_reducible refine (slices_Index_int_int.calls k _ _ l0 a1 t222 _ ?side1 ?side2 A3.out).mono ?_); (case side1 => repeat (first | exact HR0.out | (with_reducible refine Kd.C_alloc ?_ _) | (with_reducible refine Kd.C_drewN ?_ _) | (with_reducible refine Kd.C_drew ?_))); (case side2 => exact HC0.out); rintro e w' ⟨rfl, ⟨nd, rfl⟩⟩; refine ⟨_, rfl, ?_⟩))
  go_ret
  exact ⟨by first | rfl | (simp; done) | (simp [*]; done), by repeat (first | exact Drawn0.refl _ | apply Drawn0.step)⟩

/-! ### api_Letter_37: function 37 -/
theorem R_tail {α : Type} {d : Kd α} {e : Nat} {W : World} {base : Nat} {ok : Nat → Prop} {g m c : Nat} {xs : List α} (h : d.R e W base ok (.slice (some ⟨g, 0, none⟩) m c) xs) (news : List Value) (hn : m * d.sz + news.length ≤ c * d.sz) :
    (∀ j, j < news.length → (W.cell? ⟨g, m * d.sz + j, none⟩).isSome = true) ∧ (∀ j, W.frozen? ⟨g, j, none⟩ = false) ∧ d.R e (W.setCells g (m * d.sz) news) base ok (.slice (some ⟨g, 0, none⟩) m c) xs ∧ W.grownBy (W.setCells g (m * d.sz) news) (some g) := by
  obtain ⟨hok, inner, hown, hr⟩ := h
  rcases hown.2 with ⟨hv, _⟩ | ⟨g', cap', cur, hv, hb, hh, hnc, hcm, hcs, htake⟩
  · cases hv
  injection hv with ha hl hc
  injection ha with ha
  injection ha with hg
  subst hg; subst hc; subst hl
  have hfit : xs.length * d.sz + news.length ≤ cur.size := by rw [hcs]; exact hn
  obtain ⟨cur', h3, h4, h5⟩ := setCells_row news (xs.length * d.sz) W cur hh hfit
  obtain ⟨s1, s2, s3, s4⟩ := setCells_same g news (xs.length * d.sz) W
  have hfar : ∀ k', k' ≠ g → (W.setCells g (xs.length * d.sz) news).heap[k']? = W.heap[k']? := fun k' hk' => setCells_far news _ k' hk'
  refine ⟨fun j hj => ?_, fun j => blk_frozen hh j, ⟨hok, inner, ⟨hown.1, .inr ⟨g, c, cur', rfl, hb, h3, hnc, hcm, by rw [h4, hcs], ?_⟩⟩, hr.imp_ (fun p q hp => d.M_move (fun k' hk' => hfar k' (fun he => hk'.2 (by rw [he]; simp [Value.ownBlock]))) hp)⟩, ⟨s1, s2, s3, by rw [s4]; exact Nat.le_refl _, fun k' _ hk' => hfar k' (fun he => hk' (by rw [he]))⟩⟩
  · rw [cell_of_row W g _ cur e (0, 0) hh]
    simp; omega
  · have hle : xs.length * d.sz ≤ cur.size := Nat.le_trans (Nat.le_add_right _ _) hfit
    have hx : xs.length * d.sz ≤ (cur.toList.take (xs.length * d.sz)).length := by rw [List.length_take, Array.length_toList]; exact Nat.le_min.2 ⟨Nat.le_refl _, hle⟩
    rw [h5, List.append_assoc, List.take_append_of_le_length hx, List.take_take, Nat.min_self]
    exact htake
theorem Letter_zeros_one (m : Nat) : ∀ v ∈ (Builtin.zeroCells (Value.agg #[.int .i64 0, .int .i64 0, .int .i64 0, .string ⟨#[]⟩]).cells m).toList, v.oneCell' = true := by
  intro v hv
  simp only [Builtin.zeroCells, Value.cells, Array.toList_map, List.mem_map] at hv
  obtain ⟨i, _, rfl⟩ := hv
  have h6 : i % 4 < 4 := Nat.mod_lt _ (by decide)
  show ((#[.int .i64 0, .int .i64 0, .int .i64 0, .string ⟨#[]⟩] : Array Value)[i % 4]!).oneCell' = true
  generalize i % 4 = q at h6
  match q, h6 with
  | 0, _ => rfl
  | 1, _ => rfl
  | 2, _ => rfl
  | 3, _ => rfl
theorem Letter_zeros_len (m : Nat) : (Builtin.zeroCells (Value.agg #[.int .i64 0, .int .i64 0, .int .i64 0, .string ⟨#[]⟩]).cells m).toList.length = m * 4 := by
  simp [Builtin.zeroCells, Value.cells]
theorem Letter_take_set {α : Type} : ∀ (l : List α) (i : Nat) (y : α), i < l.length → (l.set i y).take (i + 1) = l.take i ++ [y]
  | [], _, _, h => absurd h (by simp)
  | x :: l, 0, y, _ => by simp
  | x :: l, i + 1, y, h => by simp [Letter_take_set l i y (by simpa using h)]
theorem Letter_drop_set {α : Type} : ∀ (l : List α) (i j : Nat) (y : α), i < j → (l.set i y).drop j = l.drop j
  | [], _, _, _, _ => by simp
  | x :: l, 0, j + 1, y, _ => by simp
  | x :: l, i + 1, j + 1, y, h => by simp [Letter_drop_set l i j y (by omega)]
  | x :: l, i, 0, y, h => absurd h (by omega)
theorem Letter_clear (w1 w2 : World) (g o m c : Nat) (hm : 0 < m) (hst : (storeCells ⟨g, o, none⟩ (Builtin.zeroCells (Value.agg #[.int .i64 0, .int .i64 0, .int .i64 0, .string ⟨#[]⟩]).cells m).toList 0).run Try.prog w1 = .ok () w2) :
    (Builtin.clear_ #[22] 0 #[.slice (some ⟨g, o, none⟩) m c]).run Try.prog w1 = .ok (.tuple #[]) w2 := by
  have hz : (zeroValue 35).run Try.prog w1 = .ok (.agg #[.int .i64 0, .int .i64 0, .int .i64 0, .string ⟨#[]⟩]) w1 := by go_simp
  obtain ⟨q, rfl⟩ : ∃ q, m = q + 1 := ⟨m - 1, by omega⟩
  simp only [Builtin.clear_, List.getElem?_toArray, List.getElem?_cons_zero, Sem.run_bind, run_underlying Try.underlying22, Result.andThen_ok, hz]
  rw [hst]
  rfl
theorem Letter_filter_none (p : S35 → Bool) (l : List S35) (h : ix_Letter p l = -1) : l.filter (fun x => !p x) = l := by
  rw [List.filter_eq_self]
  intro x hx
  unfold ix_Letter at h
  cases e : l.findIdx? p with
  | none => rw [List.findIdx?_eq_none_iff] at e; rw [e x hx]; rfl
  | some i => rw [e] at h; exact absurd h (by show ¬ (i : Int) = -1; omega)
theorem Letter_ix_some (p : S35 → Bool) (l : List S35) (h : ¬ ix_Letter p l = -1) : ∃ i : Nat, ∃ hi : i < l.length, ix_Letter p l = (i : Int) ∧ p l[i] = true ∧ l.take i = (l.take i).filter (fun x => !p x) := by
  unfold ix_Letter at h ⊢
  cases e : l.findIdx? p with
  | none => rw [e] at h; exact absurd rfl h
  | some i =>
    rw [List.findIdx?_eq_some_iff_getElem] at e
    obtain ⟨hi, h1, h2⟩ := e
    refine ⟨i, hi, rfl, h1, ?_⟩
    symm
    rw [List.filter_eq_self]
    intro x hx
    obtain ⟨j, hj, rfl⟩ := List.mem_take_iff_getElem.1 hx
    have := h2 j (by omega)
    simpa using this
set_option maxHeartbeats 16000000 in
set_option maxRecDepth 100000 in
theorem delfunc_Letter.calls {base : Nat} {ok : Nat → Prop} {w0 W : World} (v : Value) (xs : List S35) (p : S35 → Bool) (g : Nat) (lb : Array Value) (eg : ∀ args w, (callFunc g args).run Try.prog w = .ok (.enter g args) w)
    (HO : Kd.R k35 35 W base ok v xs) (HB : Below base w0 W) (hbase : base ≤ W.heap.size)
    (hp : ∀ (W1 : World) (x : S35), Kept W W1 (fun k => some k = v.ownBlock) → Calls Try.prog g (#[.agg #[.int .i64 x.f0, .int .i64 x.f1, .int .i64 x.f2, .string x.f3]] ++ lb) W1 fun e w' => e = .returned (.bool (p x)) ∧ Below W1.heap.size W1 w') :
    Calls Try.prog 37 #[v, .func (.func g) #[] lb] W fun e w' => ∃ v0_ : Value, e = .returned v0_ ∧ Kd.R k35 35 w' base ok v0_ (xs.filter (fun x => !p x)) ∧ Below base w0 w' := by
  have hu_ := Try.underlying35
  obtain ⟨A, c, rfl, hc, hC⟩ := Kd.R_reads HO
  have hcon := ixfunc_Letter.calls p g lb eg A c xs W (fun W1 x hb => (hp W1 x (Kept.of_below hb _)).mono (fun e w' h => ⟨h.1, hb.trans (h.2.mono hb.size)⟩)) hC
  by_cases hix : ix_Letter p xs = -1
  · rw [Letter_filter_none p xs hix]
    rw [hix] at hcon
    clear hp hix
    have HO1 := Aside0.mk HO
    have HB1 := Aside0.mk HB
    clear HO HB hC
    go_enter Try.func37, Try.ntmps37
    go_wp2_with (go_at_call 42; refine hcon.mono ?_; rintro e w1 ⟨rfl, hb⟩)
    go_ret
    exact ⟨_, rfl, Kd.R_below HO1.out hb, HB1.out.trans (hb.mono hbase)⟩
  · obtain ⟨i0, hi0, hixe, hpi, htk⟩ := Letter_ix_some p xs hix
    rw [hixe] at hcon
    clear hix hixe
    obtain ⟨gb, cap_, ev_, hgb_, _, _⟩ := Kd.R_form HO (by omega)
    injection ev_ with ea_ eb_ ec_
    subst ec_
    subst ea_
    clear eb_
    have hbig := (Kd.R_reads' HO).2.2.2.1
    have HO1 := Aside0.mk HO
    have HB1 := Aside0.mk HB
    have HP := Aside0.mk hp
    have TK := Aside0.mk htk
    have PI := Aside0.mk hpi
    have n1 : ¬ (i0 : Int) = -1 := by omega
    have n2 : ((i0 : Int) == -1) = false := by rw [beq_eq_false_iff_ne]; exact n1
    clear HO HB hC hp htk hpi
    go_enter Try.func37, Try.ntmps37
    go_wp2_with (go_at_call 42; refine hcon.mono ?_; rintro e w1 ⟨rfl, hb⟩; have HB2 := Aside0.mk (HB1.out.trans (hb.mono hbase)); have HO2 := Aside0.mk (Kd.R_below HO1.out hb); have HK2 := Aside0.mk (Kept.of_below hb (fun k => some k = (Value.slice (some ⟨gb, 0, none⟩) xs.length c).ownBlock)); clear hb)
    go_loopg [5, 6] xs.length (fun gg s5 s6 wr => ∃ ii jj : Nat, ii < jj ∧ jj ≤ xs.length ∧ xs.length - jj ≤ gg ∧ s5 = .int .i64 ii ∧ s6 = .int .i64 jj ∧ Aside0 (∃ ys : List S35, Kd.R k35 35 wr base ok (.slice (some ⟨gb, 0, none⟩) xs.length c) ys ∧ ys.take ii = (xs.take jj).filter (fun x => !p x) ∧ ys.drop jj = xs.drop jj) ∧ Aside0 (Kept W wr (fun k => some k = (Value.slice (some ⟨gb, 0, none⟩) xs.length c).ownBlock)) ∧ Aside0 (Below base w0 wr))
    case atStart =>
      refine ⟨i0, i0 + 1, by omega, by omega, by omega, rfl, by first | rfl | (congr 1; go_num) | go_num, ⟨xs, HO2.out, ?_, rfl⟩, HK2, HB2⟩
      rw [List.take_succ_eq_append_getElem hi0, List.filter_append, ← TK.out]
      simp [PI.out]
    case round =>
      obtain ⟨ii, jj, hij, hjn, hg, rfl, rfl, ⟨ys, hO, hT, hD⟩, HK, HBr⟩ := hrel
      clear HO2 HK2 HB2
      have hyl : xs.length = ys.length := (Kd.R_reads' hO).1
      have hcc_ : xs.length ≤ c := (Kd.R_reads' hO).2.1
      have HO3 := Aside0.mk hO
      have HT := Aside0.mk hT
      have HD := Aside0.mk hD
      by_cases hlt : jj < xs.length
      · have hltz : (jj : Int) < (xs.length : Int) := by omega
        have hy : rd_T35 ys (jj : Int) = xs[jj] := by
          have e1 := List.drop_eq_getElem_cons (l := ys) (i := jj) (by omega)
          have e2 := List.drop_eq_getElem_cons (l := xs) (i := jj) hlt
          rw [hD, e2] at e1
          injection e1 with e1 _
          rw [e1]
          simp [rd_T35, List.getD_eq_getElem?_getD, List.getElem?_eq_getElem (show jj < ys.length by omega)]
        obtain ⟨ad, e0, hx0, hx1, hx2, hx3⟩ := at_T35 (Kd.R_reads' hO).2.2 (jj : Int) (by omega) (by omega)
        cases e0
        rw [hy] at hx0 hx1 hx2 hx3
        simp only [Int.toNat_natCast, Addr.add_lit, Nat.zero_add] at hx0 hx1 hx2 hx3
        have HYL := Aside0.mk hyl
        generalize hye : xs[jj] = y at hx0 hx1 hx2 hx3 hy
        have Y := Aside0.mk hye
        clear hy hye hO hT hD hyl
        have hstep : ∀ w3 : World, Kept W w3 (fun k => some k = (Value.slice (some ⟨gb, 0, none⟩) xs.length c).ownBlock) → _ := fun w3 h3 => HP.out w3 y h3
        cases hq : p y with
        | true =>
          have Q := Aside0.mk hq
          rw [hq] at hstep
          clear hq
          go_wp2_with (first | ((with_reducible refine gate_dst (N := 7) rfl ?_); refine box_event ?hg (N := 7) ?hd (cs := #[.int .i64 0, .int .i64 0, .int .i64 0, .string ⟨#[]⟩]) (t := 35) ?hr ?_; (case hd => rfl); (case hg => rfl); (case hr => first | (go_simp; done) | (go_simp; rfl)); intro gbV hg w2 hbox hb; have GV := Aside0.mk (show W.heap.size ≤ gbV from by rw [hg]; exact HK.out.1); have GB := Aside0.mk (show base ≤ gbV from Nat.le_trans hbase GV.out); have n0_ := Aside0.mk (Kd.R_below (Kd.R_elderB HO3.out gbV (Nat.le_of_eq hg.symm)) hb); have n1_ := Aside0.mk (HK.out.below hb); have n2_ := Aside0.mk (HBr.out.trans (hb.mono (Nat.le_trans hbase HK.out.1))); have n3_ := Aside0.mk hbox; clear HO3 HK HBr hbox hb hg; have HO3 := n0_; have HK := n1_; have HBr := n2_; have BKV := n3_; clear n0_ n1_ n2_ n3_; have hz0 : w2.cell? ⟨gbV, 0, none⟩ = some (.int .i64 0) := (blk_cell BKV.out 0).trans rfl; have hw0 := blk_frozen BKV.out 0; have hz1 : w2.cell? ⟨gbV, 1, none⟩ = some (.int .i64 0) := (blk_cell BKV.out 1).trans rfl; have hw1 := blk_frozen BKV.out 1; have hz2 : w2.cell? ⟨gbV, 2, none⟩ = some (.int .i64 0) := (blk_cell BKV.out 2).trans rfl; have hw2 := blk_frozen BKV.out 2; have hz3 : w2.cell? ⟨gbV, 3, none⟩ = some (.string ⟨#[]⟩) := (blk_cell BKV.out 3).trans rfl; have hw3 := blk_frozen BKV.out 3) | ((with_reducible refine gate_store (t := 35) (p := 7) rfl ?_); refine store_event (t := 35) (p := 7) (v := ?vo_) (w1 := ((((w2.setCell ⟨gbV, 0, none⟩ (.int .i64 y.f0)).setCell ⟨gbV, 1, none⟩ (.int .i64 y.f1)).setCell ⟨gbV, 2, none⟩ (.int .i64 y.f2)).setCell ⟨gbV, 3, none⟩ (.string y.f3))) ?hg ?ho ?hn ?hr ?_; (case ho => rfl); (case hg => rfl); (case hn => rfl); (case hr => first | (go_simp; done) | (go_simp; rfl)); intro w3 hw; have n0_ : Aside0 (Kd.R k35 35 w3 base ok (.slice (some ⟨gb, 0, none⟩) xs.length c) ys) := ⟨by rw [hw]; exact Kd.R_mono (Kd.R_far (p := ⟨gbV, 3, none⟩) (Kd.R_far (p := ⟨gbV, 2, none⟩) (Kd.R_far (p := ⟨gbV, 1, none⟩) (Kd.R_far (p := ⟨gbV, 0, none⟩) HO3.out (fun _ hk => hk.2) (.int .i64 y.f0)) (fun _ hk => hk.2) (.int .i64 y.f1)) (fun _ hk => hk.2) (.int .i64 y.f2)) (fun _ hk => hk.2) (.string y.f3)) (fun _ hk => hk.1)⟩; have n1_ : Aside0 (Kept W w3 (fun k => some k = (Value.slice (some ⟨gb, 0, none⟩) xs.length c).ownBlock)) := ⟨by rw [hw]; exact Kept.setCell (Kept.setCell (Kept.setCell (Kept.setCell (HK.out) (.inr GV.out) _) (.inr GV.out) _) (.inr GV.out) _) (.inr GV.out) _⟩; have n2_ : Aside0 (Below base w0 w3) := ⟨by rw [hw]; exact Below.setCell (p := ⟨gbV, 3, none⟩) (Below.setCell (p := ⟨gbV, 2, none⟩) (Below.setCell (p := ⟨gbV, 1, none⟩) (Below.setCell (p := ⟨gbV, 0, none⟩) (HBr.out) GB.out _) GB.out _) GB.out _) GB.out _⟩; have n3_ : Aside0 (w3.heap[gbV]? = some (.cells #[.int .i64 y.f0, .int .i64 y.f1, .int .i64 y.f2, .string y.f3] 35 (0, 0))) := ⟨by rw [hw]; exact (by refine blk_put (cs := #[.int .i64 y.f0, .int .i64 y.f1, .int .i64 y.f2, .string ⟨#[]⟩]) ?_ 3 _ rfl; refine blk_put (cs := #[.int .i64 y.f0, .int .i64 y.f1, .int .i64 0, .string ⟨#[]⟩]) ?_ 2 _ rfl; refine blk_put (cs := #[.int .i64 y.f0, .int .i64 0, .int .i64 0, .string ⟨#[]⟩]) ?_ 1 _ rfl; refine blk_put (cs := #[.int .i64 0, .int .i64 0, .int .i64 0, .string ⟨#[]⟩]) ?_ 0 _ rfl; exact BKV.out)⟩; clear HO3 HK HBr BKV hw hz0 hw0 hz1 hw1 hz2 hw2 hz3 hw3; have HO3 := n0_; have HK := n1_; have HBr := n2_; have BKV := n3_; clear n0_ n1_ n2_ n3_; have hv0 : w3.cell? ⟨gbV, 0, none⟩ = some (.int .i64 y.f0) := (blk_cell BKV.out 0).trans rfl; have hv1 : w3.cell? ⟨gbV, 1, none⟩ = some (.int .i64 y.f1) := (blk_cell BKV.out 1).trans rfl; have hv2 : w3.cell? ⟨gbV, 2, none⟩ = some (.int .i64 y.f2) := (blk_cell BKV.out 2).trans rfl; have hv3 : w3.cell? ⟨gbV, 3, none⟩ = some (.string y.f3) := (blk_cell BKV.out 3).trans rfl) | (go_at_fn g; refine (hstep w3 HK.out).mono ?_; rintro e w4 ⟨rfl, hb⟩; have n0_ := Aside0.mk (Kd.R_below HO3.out hb); have n1_ := Aside0.mk (HK.out.below hb); have n2_ := Aside0.mk (HBr.out.trans (hb.mono (Nat.le_trans hbase HK.out.1))); clear HO3 HK HBr; have HO3 := n0_; have HK := n1_; have HBr := n2_; clear n0_ n1_ n2_ hb))
          go_roundg (xs.length - (jj + 1))
          case measure => omega
          case rel =>
            refine ⟨ii, jj + 1, by omega, by omega, by omega, rfl, by first | rfl | (congr 1; go_num) | go_num, ⟨ys, HO3.out, ?_, ?_⟩, HK, HBr⟩
            · rw [HT.out, List.take_succ_eq_append_getElem hlt, List.filter_append, Y.out]; simp [Q.out]
            · rw [List.drop_eq_getElem_cons (show jj < ys.length by have := HYL.out; omega), List.drop_eq_getElem_cons hlt] at HD
              have := HD.out
              injection this
        | false =>
          have Q := Aside0.mk hq
          rw [hq] at hstep
          clear hq
          go_wp2_with (first | ((with_reducible refine gate_dst (N := 7) rfl ?_); refine box_event ?hg (N := 7) ?hd (cs := #[.int .i64 0, .int .i64 0, .int .i64 0, .string ⟨#[]⟩]) (t := 35) ?hr ?_; (case hd => rfl); (case hg => rfl); (case hr => first | (go_simp; done) | (go_simp; rfl)); intro gbV hg w2 hbox hb; have GV := Aside0.mk (show W.heap.size ≤ gbV from by rw [hg]; exact HK.out.1); have GB := Aside0.mk (show base ≤ gbV from Nat.le_trans hbase GV.out); have n0_ := Aside0.mk (Kd.R_below (Kd.R_elderB HO3.out gbV (Nat.le_of_eq hg.symm)) hb); have n1_ := Aside0.mk (HK.out.below hb); have n2_ := Aside0.mk (HBr.out.trans (hb.mono (Nat.le_trans hbase HK.out.1))); have n3_ := Aside0.mk hbox; clear HO3 HK HBr hbox hb hg; have HO3 := n0_; have HK := n1_; have HBr := n2_; have BKV := n3_; clear n0_ n1_ n2_ n3_; have hz0 : w2.cell? ⟨gbV, 0, none⟩ = some (.int .i64 0) := (blk_cell BKV.out 0).trans rfl; have hw0 := blk_frozen BKV.out 0; have hz1 : w2.cell? ⟨gbV, 1, none⟩ = some (.int .i64 0) := (blk_cell BKV.out 1).trans rfl; have hw1 := blk_frozen BKV.out 1; have hz2 : w2.cell? ⟨gbV, 2, none⟩ = some (.int .i64 0) := (blk_cell BKV.out 2).trans rfl; have hw2 := blk_frozen BKV.out 2; have hz3 : w2.cell? ⟨gbV, 3, none⟩ = some (.string ⟨#[]⟩) := (blk_cell BKV.out 3).trans rfl; have hw3 := blk_frozen BKV.out 3) | ((with_reducible refine gate_store (t := 35) (p := 7) rfl ?_); refine store_event (t := 35) (p := 7) (v := ?vo_) (w1 := ((((w2.setCell ⟨gbV, 0, none⟩ (.int .i64 y.f0)).setCell ⟨gbV, 1, none⟩ (.int .i64 y.f1)).setCell ⟨gbV, 2, none⟩ (.int .i64 y.f2)).setCell ⟨gbV, 3, none⟩ (.string y.f3))) ?hg ?ho ?hn ?hr ?_; (case ho => rfl); (case hg => rfl); (case hn => rfl); (case hr => first | (go_simp; done) | (go_simp; rfl)); intro w3 hw; have n0_ : Aside0 (Kd.R k35 35 w3 base ok (.slice (some ⟨gb, 0, none⟩) xs.length c) ys) := ⟨by rw [hw]; exact Kd.R_mono (Kd.R_far (p := ⟨gbV, 3, none⟩) (Kd.R_far (p := ⟨gbV, 2, none⟩) (Kd.R_far (p := ⟨gbV, 1, none⟩) (Kd.R_far (p := ⟨gbV, 0, none⟩) HO3.out (fun _ hk => hk.2) (.int .i64 y.f0)) (fun _ hk => hk.2) (.int .i64 y.f1)) (fun _ hk => hk.2) (.int .i64 y.f2)) (fun _ hk => hk.2) (.string y.f3)) (fun _ hk => hk.1)⟩; have n1_ : Aside0 (Kept W w3 (fun k => some k = (Value.slice (some ⟨gb, 0, none⟩) xs.length c).ownBlock)) := ⟨by rw [hw]; exact Kept.setCell (Kept.setCell (Kept.setCell (Kept.setCell (HK.out) (.inr GV.out) _) (.inr GV.out) _) (.inr GV.out) _) (.inr GV.out) _⟩; have n2_ : Aside0 (Below base w0 w3) := ⟨by rw [hw]; exact Below.setCell (p := ⟨gbV, 3, none⟩) (Below.setCell (p := ⟨gbV, 2, none⟩) (Below.setCell (p := ⟨gbV, 1, none⟩) (Below.setCell (p := ⟨gbV, 0, none⟩) (HBr.out) GB.out _) GB.out _) GB.out _) GB.out _⟩; have n3_ : Aside0 (w3.heap[gbV]? = some (.cells #[.int .i64 y.f0, .int .i64 y.f1, .int .i64 y.f2, .string y.f3] 35 (0, 0))) := ⟨by rw [hw]; exact (by refine blk_put (cs := #[.int .i64 y.f0, .int .i64 y.f1, .int .i64 y.f2, .string ⟨#[]⟩]) ?_ 3 _ rfl; refine blk_put (cs := #[.int .i64 y.f0, .int .i64 y.f1, .int .i64 0, .string ⟨#[]⟩]) ?_ 2 _ rfl; refine blk_put (cs := #[.int .i64 y.f0, .int .i64 0, .int .i64 0, .string ⟨#[]⟩]) ?_ 1 _ rfl; refine blk_put (cs := #[.int .i64 0, .int .i64 0, .int .i64 0, .string ⟨#[]⟩]) ?_ 0 _ rfl; exact BKV.out)⟩; clear HO3 HK HBr BKV hw hz0 hw0 hz1 hw1 hz2 hw2 hz3 hw3; have HO3 := n0_; have HK := n1_; have HBr := n2_; have BKV := n3_; clear n0_ n1_ n2_ n3_; have hv0 : w3.cell? ⟨gbV, 0, none⟩ = some (.int .i64 y.f0) := (blk_cell BKV.out 0).trans rfl; have hv1 : w3.cell? ⟨gbV, 1, none⟩ = some (.int .i64 y.f1) := (blk_cell BKV.out 1).trans rfl; have hv2 : w3.cell? ⟨gbV, 2, none⟩ = some (.int .i64 y.f2) := (blk_cell BKV.out 2).trans rfl; have hv3 : w3.cell? ⟨gbV, 3, none⟩ = some (.string y.f3) := (blk_cell BKV.out 3).trans rfl) | (go_at_fn g; refine (hstep w3 HK.out).mono ?_; rintro e w4 ⟨rfl, hb⟩; have n0_ := Aside0.mk (Kd.R_below HO3.out hb); have n1_ := Aside0.mk (HK.out.below hb); have n2_ := Aside0.mk (HBr.out.trans (hb.mono (Nat.le_trans hbase HK.out.1))); have n3_ := Aside0.mk (blk_below BKV.out hb); clear HO3 HK HBr BKV; have HO3 := n0_; have HK := n1_; have HBr := n2_; have BKV := n3_; clear n0_ n1_ n2_ n3_ hb; have hv0 : w4.cell? ⟨gbV, 0, none⟩ = some (.int .i64 y.f0) := (blk_cell BKV.out 0).trans rfl; have hv1 : w4.cell? ⟨gbV, 1, none⟩ = some (.int .i64 y.f1) := (blk_cell BKV.out 1).trans rfl; have hv2 : w4.cell? ⟨gbV, 2, none⟩ = some (.int .i64 y.f2) := (blk_cell BKV.out 2).trans rfl; have hv3 : w4.cell? ⟨gbV, 3, none⟩ = some (.string y.f3) := (blk_cell BKV.out 3).trans rfl; obtain ⟨ce_, hcl_, hM_, hcc0_, hfr_⟩ := Kd.R_elem HO3.out z35 (ii : Int) (by omega) (by omega); obtain rfl := k35_openM hM_; have hseg_ := (Kd.R_seg HO3.out (ii : Int) (by omega) (by omega) (seg := [.int .i64 y.f0, .int .i64 y.f1, .int .i64 y.f2, .string y.f3]) (j := 0) hcl_ hcc0_ (show 0 + 4 ≤ 4 by decide) (x' := y) (k35_mkM _ _ _ y) (okp := fun k => ok k ∧ k ≠ gb) (fun _ hk => hk)).1; have hsz_ : k35.sz = 4 := rfl; simp only [World.setCells, Int.toNat_natCast, Nat.add_zero, hsz_, Nat.add_assoc, Nat.reduceAdd] at hseg_; have HSEG := Aside0.mk hseg_; clear hseg_ hsz_; have hr0 : w4.cell? ⟨gb, ii * 4, none⟩ = some _ := hcc0_ 0 _ rfl; have hs0 : w4.frozen? ⟨gb, ii * 4, none⟩ = false := hfr_ 0; have hr1 : w4.cell? ⟨gb, ii * 4 + 1, none⟩ = some _ := hcc0_ 1 _ rfl; have hs1 : w4.frozen? ⟨gb, ii * 4 + 1, none⟩ = false := hfr_ 1; have hr2 : w4.cell? ⟨gb, ii * 4 + 2, none⟩ = some _ := hcc0_ 2 _ rfl; have hs2 : w4.frozen? ⟨gb, ii * 4 + 2, none⟩ = false := hfr_ 2; have hr3 : w4.cell? ⟨gb, ii * 4 + 3, none⟩ = some _ := hcc0_ 3 _ rfl; have hs3 : w4.frozen? ⟨gb, ii * 4 + 3, none⟩ = false := hfr_ 3; clear hcl_ hcc0_ hfr_ hM_))
          go_roundg (xs.length - (jj + 1))
          case measure => omega
          case rel =>
            have hS_ : some gb = (Value.slice (some ⟨gb, 0, none⟩) xs.length c).ownBlock := rfl
            refine ⟨ii + 1, jj + 1, by omega, by omega, by omega, by first | rfl | (congr 1; go_num) | go_num, by first | rfl | (congr 1; go_num) | go_num, ⟨ys.set ii y, HSEG.out, ?_, ?_⟩, ⟨Kept.setCell (p := ⟨gb, ii * 4 + 3, none⟩) (Kept.setCell (p := ⟨gb, ii * 4 + 2, none⟩) (Kept.setCell (p := ⟨gb, ii * 4 + 1, none⟩) (Kept.setCell (p := ⟨gb, ii * 4, none⟩) (HK.out) (Or.inl hS_) _) (Or.inl hS_) _) (Or.inl hS_) _) (Or.inl hS_) _⟩, ⟨Below.setCell (p := ⟨gb, ii * 4 + 3, none⟩) (Below.setCell (p := ⟨gb, ii * 4 + 2, none⟩) (Below.setCell (p := ⟨gb, ii * 4 + 1, none⟩) (Below.setCell (p := ⟨gb, ii * 4, none⟩) (HBr.out) hgb_ _) hgb_ _) hgb_ _) hgb_ _⟩⟩
            · rw [Letter_take_set ys ii y (by have := HYL.out; omega), HT.out, List.take_succ_eq_append_getElem hlt, List.filter_append, Y.out]; simp [Q.out]
            · rw [Letter_drop_set ys ii (jj + 1) y (by omega)]
              have h3 := HD.out
              rw [List.drop_eq_getElem_cons (show jj < ys.length by have := HYL.out; omega), List.drop_eq_getElem_cons hlt] at h3
              injection h3
      · have hltz : ¬ (jj : Int) < (xs.length : Int) := by omega
        have hje : jj = xs.length := by omega
        have HYL := Aside0.mk hyl
        have hin : ii < xs.length := by omega
        obtain ⟨t1, t2, t3, t4⟩ := R_tail (Kd.R_take (m := ii) hO (by omega)) (Builtin.zeroCells (Value.agg #[.int .i64 0, .int .i64 0, .int .i64 0, .string ⟨#[]⟩]).cells (xs.length - ii)).toList (by rw [Letter_zeros_len]; show ii * 4 + _ ≤ c * 4; omega)
        have hsz : k35.sz = 4 := rfl
        rw [hsz] at t1 t3 t4
        have hst := run_storeCells_cells (P := Try.prog) gb (ii * 4) (Builtin.zeroCells (Value.agg #[.int .i64 0, .int .i64 0, .int .i64 0, .string ⟨#[]⟩]).cells (xs.length - ii)).toList 0 wr (fun j hj => t1 j hj) (fun j _ => t2 _) (Letter_zeros_one _)
        have hcl := Letter_clear wr _ gb (ii * 4) (xs.length - ii) (c - ii) (by omega) hst
        have hb2 := HBr.out.grown t4 (Nat.le_trans hbase HK.out.1) (fun k hk => by injection hk with hk; subst hk; exact hgb_)
        have T3 := Aside0.mk t3
        have B2 := Aside0.mk hb2
        have TF : Aside0 (ys.take ii = xs.filter (fun x => !p x)) := ⟨by rw [HT.out, hje, List.take_length]⟩
        simp only [Nat.add_zero] at hcl
        generalize wr.setCells gb (ii * 4) (Builtin.zeroCells (Value.agg #[.int .i64 0, .int .i64 0, .int .i64 0, .string ⟨#[]⟩]).cells (xs.length - ii)).toList = w5 at hcl T3 B2
        have i1 : ¬ c = ii := by omega
        have i2 : ii ≤ xs.length := by omega
        have i3 : ii ≤ c := by omega
        clear hst t1 t2 t3 t4 hb2 hyl hO hT hD hje
        go_wp2
        go_ret
        exact ⟨_, rfl, by rw [← TF.out]; exact T3.out, B2.out⟩


end Go.Proofs.Ytofbkpdpgmjllaa.F
