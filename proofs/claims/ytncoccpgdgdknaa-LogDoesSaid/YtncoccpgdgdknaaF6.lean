-- Written by a program of this session (xprint.py), out of the translation and of contracts proved by hand.
import Derived.Test.YtncoccpgdgdknaaF0
import Derived.Test.YtncoccpgdgdknaaF2
import Derived.Test.YtncoccpgdgdknaaF5
namespace Go.Proofs.Ytncoccpgdgdknaa.F
open Go.RowKit Go.Proofs.YtncoccpgdgdknaaV.PrintWords Go.Proofs.YtncoccpgdgdknaaV.PrintLast Go.Proofs.YtncoccpgdgdknaaV.PrintMore
attribute [local go_sem] max2_int min2_int max_two min_two max_three min_three max_four min_four   -- for this text's walks alone
set_option linter.unusedVariables false
set_option linter.unusedSimpArgs false

/-! ### log_vote_own: function 36 -/
def log_vote_own.f (a0_0 : Int) (a0_1 : Int) (a0_2 : Int) (l0_3 : List ByteArray) : Option (Int × Int × Int × List ByteArray) := (slices_Clone_string_string.f l0_3).bind fun t183 => (some (a0_0, a0_1, a0_2, t183))
set_option maxHeartbeats 8000000 in
set_option maxRecDepth 100000 in
theorem log_vote_own.calls (a0_0 : Int) (a0_1 : Int) (a0_2 : Int) (A0_3 : Option Addr) (c0_3 : Nat) (l0_3 : List ByteArray) (r1 : Int) (r2 : Int) (r3 : Int) (r4 : List ByteArray) (w : World) (hr0_3 : Kd.C Kd.string w A0_3 l0_3.length l0_3) (hc0_3 : l0_3.length ≤ c0_3) (h : log_vote_own.f a0_0 a0_1 a0_2 l0_3 = some (r1, r2, r3, r4)) :
    Calls Try.prog 36 #[.agg #[.int .i64 a0_0, .int .i64 a0_1, .int .i64 a0_2, .slice A0_3 l0_3.length c0_3]] w fun e w' => ∃ v3_ : Value, e = .returned (.agg #[.int .i64 r1, .int .i64 r2, .int .i64 r3, v3_]) ∧ Kd.R Kd.string 9 w' w.heap.size (fun _ => True) v3_ r4 ∧ Below w.heap.size w w' := by
  have hu54 := Try.underlying54
  have hu36 := Try.underlying36
  have HR0_3 := Aside0.mk hr0_3
  have HC0_3 := Aside0.mk hc0_3
  clear hr0_3 hc0_3
  have HB := Aside0.mk (Below.refl w.heap.size w)
  have H : ((slices_Clone_string_string.f l0_3).bind fun t183 => (some (a0_0, a0_1, a0_2, t183))) = some (r1, r2, r3, r4) := h
  clear h
  replace H := Option.bind_eq_some_iff.mp H
  obtain ⟨t183, A20, H⟩ := H
  replace H : (some (a0_0, a0_1, a0_2, t183)) = some (r1, r2, r3, r4) := H
  have A2 := Aside0.mk A20
  clear A20
  simp only [Option.some.injEq, Prod.mk.injEq] at H
  obtain ⟨rfl, rfl, rfl, rfl⟩ := H
  go_enter Try.func36, Try.ntmps36
  go_wp2_with (first | ((with_reducible refine gate_dst (N := 1) rfl ?_); refine box_event ?hg (N := 1) ?hd (cs := #[.int .i64 a0_0, .int .i64 a0_1, .int .i64 a0_2, .slice A0_3 l0_3.length c0_3]) (t := 54) ?hr ?_; (case hd => rfl); (case hg => rfl); (case hr => first | (go_simp; done) | (go_simp; rfl)); intro gb181 hg w3 hbox hb; have BK181 := Aside0.mk (hbox); have GW181 := Aside0.mk ((by rw [hg]; exact (below_size HB.out) : w.heap.size ≤ gb181)); have GE181 := Aside0.mk ((by rw [hg]; exact (below_size HB.out) : w.heap.size ≤ gb181)); replace HB := Aside0.mk (below_step HB.out hb); clear hb hbox hg) | ((with_reducible refine gate_dst (N := 2) rfl ?_); refine box_event ?hg (N := 2) ?hd (cs := #[.int .i64 0, .int .i64 0, .int .i64 0, .slice none 0 0]) (t := 36) ?hr ?_; (case hd => rfl); (case hg => rfl); (case hr => first | (go_simp; done) | (go_simp; rfl)); intro gb182 hg w4 hbox hb; have BK182 := Aside0.mk (hbox); have GW182 := Aside0.mk ((by rw [hg]; exact (below_size (by repeat (with_reducible first | exact HB.out | apply pw_below_drewN | apply below_drew1 | refine below_set ?_ GE181.out))) : w.heap.size ≤ gb182)); have GE182 := Aside0.mk ((by rw [hg]; exact (below_size (by repeat (with_reducible first | exact HB.out | apply pw_below_drewN | apply below_drew1 | refine below_set ?_ GE181.out))) : w.heap.size ≤ gb182)); replace HB := Aside0.mk (below_step (by repeat (with_reducible first | exact HB.out | apply pw_below_drewN | apply below_drew1 | refine below_set ?_ GE181.out)) hb); have NB181_182 := Aside0.mk ((by rw [hg]; exact Nat.ne_of_lt (blk_lt BK181.out) : gb181 ≠ gb182)); have NB182_181 := Aside0.mk ((by rw [hg]; exact Nat.ne_of_gt (blk_lt BK181.out) : gb182 ≠ gb181)); replace BK181 := bl_ BK181 hb; clear hb hbox hg; have hnb5 := NB181_182.out; have hnc5 := NB182_181.out; have hcz6_0 : w4.cell? ⟨gb181, 0, none⟩ = some (.int .i64 a0_0) := (blk_cell BK181.out 0).trans rfl; have hcz6_1 : w4.cell? ⟨gb181, 1, none⟩ = some (.int .i64 a0_1) := (blk_cell BK181.out 1).trans rfl; have hcz6_2 : w4.cell? ⟨gb181, 2, none⟩ = some (.int .i64 a0_2) := (blk_cell BK181.out 2).trans rfl; have hcz6_3 : w4.cell? ⟨gb181, 3, none⟩ = some (.slice A0_3 l0_3.length c0_3) := (blk_cell BK181.out 3).trans rfl; have hfz6_0 := blk_frozen BK181.out 0; have hfz6_1 := blk_frozen BK181.out 1; have hfz6_2 := blk_frozen BK181.out 2; have hfz6_3 := blk_frozen BK181.out 3) | ((with_reducible refine gate_callee (f := 32) rfl ?_); refine goesL_ (some 6) rfl rfl Try.func32 (by kernel_rfl) rfl #[.slice A0_3 l0_3.length c0_3] rfl (by (try simp only [List.map_toArray, List.map_cons, List.map_nil]); first | done | rfl | (simp only [List.length_drop, List.length_take]; rfl)) ?_; (with_reducible refine (slices_Clone_string_string.calls _ _ l0_3 t183 _ ?side1 ?side2 A2.out).mono ?_); (case side1 => exact (Kd.C_below HR0_3.out HB.out)); (case side2 => exact HC0_3.out); rintro e w7 ⟨v184, rfl, ho0, hb⟩; refine ⟨_, rfl, ?_⟩; have HO185 := Aside0.mk (Kd.R_lower ho0 (below_size (by repeat (with_reducible first | exact HB.out | apply pw_below_drewN | apply below_drew1 | refine below_set ?_ (Aside0.out (by assumption)))))); replace BK181 := bl_ BK181 hb; replace BK182 := bl_ BK182 hb; replace HB := Aside0.mk (below_step (by repeat (with_reducible first | exact HB.out | apply pw_below_drewN | apply below_drew1 | refine below_set ?_ (Aside0.out (by assumption)))) hb); (try clear hb); (try clear hb2); (try clear hk); (try clear hi); (try clear ho0); obtain ⟨Ao8, co8, eo8⟩ := Kd.R_slice HO185.out; subst eo8; have hcz9_0 : w7.cell? ⟨gb181, 0, none⟩ = some (.int .i64 a0_0) := (blk_cell BK181.out 0).trans rfl; have hcz9_1 : w7.cell? ⟨gb181, 1, none⟩ = some (.int .i64 a0_1) := (blk_cell BK181.out 1).trans rfl; have hcz9_2 : w7.cell? ⟨gb181, 2, none⟩ = some (.int .i64 a0_2) := (blk_cell BK181.out 2).trans rfl; have hcz9_3 : w7.cell? ⟨gb181, 3, none⟩ = some (.slice A0_3 l0_3.length c0_3) := (blk_cell BK181.out 3).trans rfl; have hfz9_0 := blk_frozen BK181.out 0; have hfz9_1 := blk_frozen BK181.out 1; have hfz9_2 := blk_frozen BK181.out 2; have hfz9_3 := blk_frozen BK181.out 3; have hcz10_0 : w7.cell? ⟨gb182, 0, none⟩ = some (.int .i64 0) := (blk_cell BK182.out 0).trans rfl; have hcz10_1 : w7.cell? ⟨gb182, 1, none⟩ = some (.int .i64 0) := (blk_cell BK182.out 1).trans rfl; have hcz10_2 : w7.cell? ⟨gb182, 2, none⟩ = some (.int .i64 0) := (blk_cell BK182.out 2).trans rfl; have hcz10_3 : w7.cell? ⟨gb182, 3, none⟩ = some (.slice none 0 0) := (blk_cell BK182.out 3).trans rfl; have hfz10_0 := blk_frozen BK182.out 0; have hfz10_1 := blk_frozen BK182.out 1; have hfz10_2 := blk_frozen BK182.out 2; have hfz10_3 := blk_frozen BK182.out 3))
  refine bodyPost_ret (results_cell_row rfl _ _ gb182 36 #[.int .i64 a0_0, .int .i64 a0_1, .int .i64 a0_2, .slice Ao8 t183.length co8] (0, 0) _ rfl (by refine blk_put (cs := #[.int .i64 a0_0, .int .i64 a0_1, .int .i64 a0_2, .slice none 0 0]) ?_ 3 _ rfl; refine blk_put (cs := #[.int .i64 a0_0, .int .i64 a0_1, .int .i64 0, .slice none 0 0]) ?_ 2 _ rfl; refine blk_put (cs := #[.int .i64 a0_0, .int .i64 0, .int .i64 0, .slice none 0 0]) ?_ 1 _ rfl; refine blk_put (cs := #[.int .i64 0, .int .i64 0, .int .i64 0, .slice none 0 0]) ?_ 0 _ rfl; refine blk_far ?_ NB182_181.out _; exact BK182.out) Try.underlying36 rfl (by kernel_rfl)) rfl ?_
  exact ⟨_, by first | rfl | (simp [errW_none, errW_some] <;> rfl) | (simp [*, errW_none, errW_some] <;> rfl), by (with_reducible repeat (first | apply Kd.R_alloc | apply Kd.R_drewN | apply Kd.R_drew)); exact Kd.R_mono (rf4 (Kd.R_far (p := ⟨gb181, 3, none⟩) (Kd.R_types (Kd.R_types HO185.out BK181.out (by decide)) BK182.out (by decide)) (fun _ hk => hk.1.2) (.slice Ao8 t183.length co8)) (fun _ hk => hk.2) (.int .i64 a0_0) (.int .i64 a0_1) (.int .i64 a0_2) (.slice Ao8 t183.length co8)) (fun _ hk => trivial), by repeat (with_reducible first | exact HB.out | apply pw_below_drewN | apply below_drew1 | refine below_set ?_ (Aside0.out (by assumption)))⟩

/-! ### log_Best: function 21 -/
def log_Best.l0 : Nat → List (S36) → Int → Int → Int → Int → Int → List ByteArray → Bool → Option (Int × Int × Int × List ByteArray × Bool)
  | 0, _, _, _, _, _, _, _, _ => none
  | k + 1, x7, x8, x9, x188000, x188001, x188002, x188003, x188004 => if x9 < x8 then (if 0 ≤ x9 then (if x9 < (x7.length : Int) then ((log_candidate_against.f x188000 x188001 x188002 x188003 x188004 ((rd_T36 x7 x9).f0) ((rd_T36 x7 x9).f1) ((rd_T36 x7 x9).f2) ((rd_T36 x7 x9).f3)).bind fun bt190 => (log_Best.l0 k x7 x8 (wrap64 (x9 + 1)) bt190.1 bt190.2.1 bt190.2.2.1 bt190.2.2.2.1 bt190.2.2.2.2)) else (none)) else (none)) else ((log_vote_own.f x188000 x188001 x188002 x188003).bind fun bt197 => (some (bt197.1, bt197.2.1, bt197.2.2.1, bt197.2.2.2, x188004)))
def log_Best.f (k : Nat) (l0 : List (S36)) : Option (Int × Int × Int × List ByteArray × Bool) := log_Best.l0 k l0 (l0.length : Int) 0 0 0 0 ([] : List ByteArray) false
theorem log_Best.mono_l : ∀ k, (∀ y0 y1 y2 y3 y4 y5 y6 y7, LeO (log_Best.l0 k y0 y1 y2 y3 y4 y5 y6 y7) (log_Best.l0 (k + 1) y0 y1 y2 y3 y4 y5 y6 y7))
  | 0 => fun _ _ _ _ _ _ _ _ r h => by simp [log_Best.l0] at h
  | k + 1 => by
    have ih0 := log_Best.mono_l k
    · intro y0 y1 y2 y3 y4 y5 y6 y7
      unfold log_Best.l0
      repeat' first
      | (with_reducible exact ih0 _ _ _ _ _ _ _ _)
      | (with_reducible exact LeO.refl _)
      | (with_reducible exact LeO.none _)
      | (with_reducible refine LeO.ite ?_ ?_)
      | (with_reducible refine LeO.bind ?_ (fun _ => ?_))
      | exact ih0 _ _ _ _ _ _ _ _
      | exact LeO.none _
      | refine LeO.ite ?_ ?_
      | refine LeO.bind ?_ (fun _ => ?_)
theorem log_Best.mono : ∀ a0 k, LeO (log_Best.f k a0) (log_Best.f (k + 1) a0) := by
  intro a0 k
  have ih0 := log_Best.mono_l k
  unfold log_Best.f
  repeat' first
      | (with_reducible exact ih0 _ _ _ _ _ _ _ _)
      | (with_reducible exact LeO.refl _)
      | (with_reducible exact LeO.none _)
      | (with_reducible refine LeO.ite ?_ ?_)
      | (with_reducible refine LeO.bind ?_ (fun _ => ?_))
      | exact ih0 _ _ _ _ _ _ _ _
      | exact LeO.none _
      | refine LeO.ite ?_ ?_
      | refine LeO.bind ?_ (fun _ => ?_)
set_option maxHeartbeats 8000000 in
set_option maxRecDepth 100000 in
theorem log_Best.calls (k : Nat) (A0 : Option Addr) (c0 : Nat) (l0 : List (S36)) (r1 : Int) (r2 : Int) (r3 : Int) (r4 : List ByteArray) (r5 : Bool) (w : World) (hr0 : Kd.C k36 w A0 l0.length l0) (hc0 : l0.length ≤ c0) (h : log_Best.f k l0 = some (r1, r2, r3, r4, r5)) :
    Calls Try.prog 21 #[.slice A0 l0.length c0] w fun e w' => ∃ v3_ : Value, e = .returned (.tuple #[.agg #[.int .i64 r1, .int .i64 r2, .int .i64 r3, v3_], .bool r5]) ∧ Kd.R Kd.string 9 w' w.heap.size (fun _ => True) v3_ r4 ∧ Below w.heap.size w w' := by
  have hu36 := Try.underlying36
  have hu56 := Try.underlying56
  have hu54 := Try.underlying54
  have HR0 := Aside0.mk hr0
  have HC0 := Aside0.mk hc0
  clear hr0 hc0
  have HB := Aside0.mk (Below.refl w.heap.size w)
  have H : (log_Best.l0 k l0 (l0.length : Int) 0 0 0 0 ([] : List ByteArray) false) = some (r1, r2, r3, r4, r5) := h
  clear h
  have H' := Aside0.mk H
  clear H
  go_enter Try.func21, Try.ntmps21
  go_wp2_with (first | ((with_reducible refine gate_dst (N := 2) rfl ?_); refine box_event ?hg (N := 2) ?hd (cs := #[.int .i64 0, .int .i64 0, .int .i64 0, .slice none 0 0]) (t := 36) ?hr ?_; (case hd => rfl); (case hg => rfl); (case hr => first | (go_simp; done) | (go_simp; rfl)); intro gb186 hg w2 hbox hb; have BK186 := Aside0.mk (hbox); have GW186 := Aside0.mk ((by rw [hg]; exact (below_size HB.out) : w.heap.size ≤ gb186)); have GE186 := Aside0.mk ((by rw [hg]; exact (below_size HB.out) : w.heap.size ≤ gb186)); replace HB := Aside0.mk (below_step HB.out hb); clear hb hbox hg) | ((with_reducible refine gate_dst (N := 4) rfl ?_); refine box_event ?hg (N := 4) ?hd (cs := #[.int .i64 0, .int .i64 0, .int .i64 0, .slice none 0 0, .bool false]) (t := 56) ?hr ?_; (case hd => rfl); (case hg => rfl); (case hr => first | (go_simp; done) | (go_simp; rfl)); intro gb187 hg w3 hbox hb; have BK187 := Aside0.mk (hbox); have GW187 := Aside0.mk ((by rw [hg]; exact (below_size (by repeat (with_reducible first | exact HB.out | apply pw_below_drewN | apply below_drew1 | refine below_set ?_ GE186.out))) : w.heap.size ≤ gb187)); have GE187 := Aside0.mk ((by rw [hg]; exact (below_size (by repeat (with_reducible first | exact HB.out | apply pw_below_drewN | apply below_drew1 | refine below_set ?_ GE186.out))) : w.heap.size ≤ gb187)); replace HB := Aside0.mk (below_step (by repeat (with_reducible first | exact HB.out | apply pw_below_drewN | apply below_drew1 | refine below_set ?_ GE186.out)) hb); have NB186_187 := Aside0.mk ((by rw [hg]; exact Nat.ne_of_lt (blk_lt BK186.out) : gb186 ≠ gb187)); have NB187_186 := Aside0.mk ((by rw [hg]; exact Nat.ne_of_gt (blk_lt BK186.out) : gb187 ≠ gb186)); replace BK186 := bl_ BK186 hb; clear hb hbox hg))
  go_loopg [9] k (fun kq v9 w' => ∃ (x9_1 : Int) (x188000_1 : Int) (x188001_1 : Int) (x188002_1 : Int) (x188003_1 : List ByteArray) (x188004_1 : Bool) (u188003 : Value), v9 = .int .i64 x9_1 ∧ Aside0 (log_Best.l0 kq l0 (l0.length : Int) x9_1 x188000_1 x188001_1 x188002_1 x188003_1 x188004_1 = some (r1, r2, r3, r4, r5)) ∧ Aside0 (kq ≤ k) ∧ Aside0 (Kd.V Kd.string 9 w' w.heap.size (fun k_ => k_ ≠ gb186 ∧ k_ ≠ gb187) u188003 x188003_1) ∧ Aside0 (w'.heap[gb186]? = some (.cells #[.int .i64 0, .int .i64 0, .int .i64 0, (.slice none 0 0)] 36 (0, 0))) ∧ Aside0 (w'.heap[gb187]? = some (.cells #[.int .i64 x188000_1, .int .i64 x188001_1, .int .i64 x188002_1, u188003, .bool x188004_1] 56 (0, 0))) ∧ Aside0 (Below w.heap.size w w'))
  case atStart => exact ⟨(0), (0), (0), (0), (([] : List ByteArray)), (false), (.slice none 0 0), (by first | rfl | (simp; done) | (simp [*]; done)), H', ⟨Nat.le_refl _⟩, ⟨Kd.R_V (base := 0) (by first | exact Kd.R_nil _ _ _ _ _ | exact Kd.N_nil _ _ _ _ _ | exact Kd.V_nil _ _ _ _ _ | exact Kd.Q_nil _ _ _ _ _ | exact Kd.S_nil _ _ _ _ _)⟩, ⟨by (with_reducible repeat (first | refine blk_drewN ?_ _ | refine blk_drew ?_ | refine blk_alloc ?_ _)); exact BK186.out⟩, ⟨by (with_reducible repeat (first | refine blk_drewN ?_ _ | refine blk_drew ?_ | refine blk_alloc ?_ _)); exact BK187.out⟩, ⟨by repeat (with_reducible first | exact HB.out | apply pw_below_drewN | apply below_drew1 | refine below_set ?_ (Aside0.out (by assumption)))⟩⟩
  case round =>
    clear H'
    try clear c2
    try clear p2
    obtain ⟨x9_1, x188000_1, x188001_1, x188002_1, x188003_1, x188004_1, u188003, rfl, HA, HK1, HO_188003, BK186, BK187, HB⟩ := hrel
    cases gk with
    | zero => exact absurd HA.out (by simp [log_Best.l0])
    | succ k1 =>
      have H := HA.out
      clear HA
      simp only [log_Best.l0] at H
      by_cases c4 : x9_1 < (l0.length : Int)
      · rw [if_pos c4] at H
        have c4b0 : decide (x9_1 < (l0.length : Int)) = true := decide_eq_true c4
        clear c4
        by_cases c5 : 0 ≤ x9_1
        · rw [if_pos c5] at H
          have c5b0 : decide (0 ≤ x9_1) = true := decide_eq_true c5
          clear c5
          by_cases c6 : x9_1 < (l0.length : Int)
          · rw [if_pos c6] at H
            have c6b0 : decide (x9_1 < (l0.length : Int)) = true := decide_eq_true c6
            clear c6
            replace H := Option.bind_eq_some_iff.mp H
            obtain ⟨⟨t190, t191, t192, t193, t196⟩, A70, H⟩ := H
            replace H : (log_Best.l0 k1 l0 (l0.length : Int) (wrap64 (x9_1 + 1)) t190 t191 t192 t193 t196) = some (r1, r2, r3, r4, r5) := H
            have A7 := Aside0.mk A70
            clear A70
            have H' := Aside0.mk H
            clear H
            have p188 : 0 ≤ (x9_1 : Int) := of_decide_eq_true (by first | (with_reducible assumption) | assumption)
            have q188 : x9_1 < (l0.length : Int) := of_decide_eq_true (by first | (with_reducible assumption) | assumption)
            obtain ⟨ad188, A188_3, c188_3, e188, hx188_0, hx188_1, hx188_2, hx188_3, hl188_3, hi188_3⟩ := at_T36 HR0.out x9_1 p188 q188
            cases e188
            replace hx188_0 := (HB.out.cell (World.block_lt_of_cell? w _ hx188_0)).trans hx188_0
            replace hx188_1 := (HB.out.cell (World.block_lt_of_cell? w _ hx188_1)).trans hx188_1
            replace hx188_2 := (HB.out.cell (World.block_lt_of_cell? w _ hx188_2)).trans hx188_2
            replace hx188_3 := (HB.out.cell (World.block_lt_of_cell? w _ hx188_3)).trans hx188_3
            have HR188_3 := Aside0.mk hi188_3
            have HC188_3 := Aside0.mk hl188_3
            clear hi188_3 hl188_3
            replace p188 := eq_true p188
            replace q188 := eq_true q188
            go_wp2_with (first | ((with_reducible refine gate_dst (N := 6) rfl ?_); refine box_event ?hg (N := 6) ?hd (cs := #[.int .i64 0, .int .i64 0, .int .i64 0, .slice none 0 0]) (t := 36) ?hr ?_; (case hd => rfl); (case hg => rfl); (case hr => first | (go_simp; done) | (go_simp; rfl)); intro gb189 hg w8 hbox hb; replace HO_188003 := Aside0.mk (Kd.V_below (Kd.V_elderB (HO_188003.out) gb189 (Nat.le_of_eq hg.symm)) hb); have BK189 := Aside0.mk (hbox); have GW189 := Aside0.mk ((by rw [hg]; exact (below_size (by repeat (with_reducible first | exact HB.out | apply pw_below_drewN | apply below_drew1 | refine below_set ?_ (Aside0.out (by assumption))))) : w.heap.size ≤ gb189)); have GE189 := Aside0.mk ((by rw [hg]; exact (below_size (by repeat (with_reducible first | exact HB.out | apply pw_below_drewN | apply below_drew1 | refine below_set ?_ (Aside0.out (by assumption))))) : w.heap.size ≤ gb189)); replace HB := Aside0.mk (below_step (by repeat (with_reducible first | exact HB.out | apply pw_below_drewN | apply below_drew1 | refine below_set ?_ (Aside0.out (by assumption)))) hb); have NB186_189 := Aside0.mk ((by rw [hg]; exact Nat.ne_of_lt (blk_lt BK186.out) : gb186 ≠ gb189)); have NB189_186 := Aside0.mk ((by rw [hg]; exact Nat.ne_of_gt (blk_lt BK186.out) : gb189 ≠ gb186)); replace BK186 := bl_ BK186 hb; have NB187_189 := Aside0.mk ((by rw [hg]; exact Nat.ne_of_lt (blk_lt BK187.out) : gb187 ≠ gb189)); have NB189_187 := Aside0.mk ((by rw [hg]; exact Nat.ne_of_gt (blk_lt BK187.out) : gb189 ≠ gb187)); replace BK187 := bl_ BK187 hb; clear hb hbox hg; have hnb9 := NB189_186.out; have hnc9 := NB186_189.out; have hnb10 := NB189_187.out; have hnc10 := NB187_189.out; have hcz11_0 : w8.cell? ⟨gb189, 0, none⟩ = some (.int .i64 0) := (blk_cell BK189.out 0).trans rfl; have hcz11_1 : w8.cell? ⟨gb189, 1, none⟩ = some (.int .i64 0) := (blk_cell BK189.out 1).trans rfl; have hcz11_2 : w8.cell? ⟨gb189, 2, none⟩ = some (.int .i64 0) := (blk_cell BK189.out 2).trans rfl; have hcz11_3 : w8.cell? ⟨gb189, 3, none⟩ = some (.slice none 0 0) := (blk_cell BK189.out 3).trans rfl; have hfz11_0 := blk_frozen BK189.out 0; have hfz11_1 := blk_frozen BK189.out 1; have hfz11_2 := blk_frozen BK189.out 2; have hfz11_3 := blk_frozen BK189.out 3) | ((with_reducible refine gate_store (t := 36) (p := 6) rfl ?_); refine store_event (t := 36) (p := 6) (v := ?vo_w12) (w1 := ((((w8.setCell ⟨gb189, 0, none⟩ (.int .i64 ((rd_T36 l0 x9_1).f0))).setCell ⟨gb189, 1, none⟩ (.int .i64 ((rd_T36 l0 x9_1).f1))).setCell ⟨gb189, 2, none⟩ (.int .i64 ((rd_T36 l0 x9_1).f2))).setCell ⟨gb189, 3, none⟩ (.slice A188_3 ((rd_T36 l0 x9_1).f3).length c188_3))) ?hg ?ho ?hn ?hr ?_; (case ho => rfl); (case hg => rfl); (case hn => rfl); (case hr => first | (go_simp; done) | (go_simp; rfl)); intro w12 hw; have n0_ : Aside0 (Kd.V Kd.string 9 w12 w.heap.size (fun k_ => k_ ≠ gb186 ∧ k_ ≠ gb187 ∧ k_ ≠ gb189) u188003 x188003_1) := ⟨(by rw [hw]; exact (by (with_reducible repeat (first | apply Kd.V_alloc | apply Kd.V_drewN | apply Kd.V_drew)); exact Kd.V_mono (Kd.V_far (p := ⟨gb189, 3, none⟩) (Kd.V_far (p := ⟨gb189, 2, none⟩) (Kd.V_far (p := ⟨gb189, 1, none⟩) (Kd.V_far (p := ⟨gb189, 0, none⟩) (Kd.V_mono HO_188003.out (fun k_ hk => (⟨hk, hk.2⟩ : _ ∧ k_ ≠ gb189))) (fun _ hk => hk.2) (.int .i64 ((rd_T36 l0 x9_1).f0))) (fun _ hk => hk.2) (.int .i64 ((rd_T36 l0 x9_1).f1))) (fun _ hk => hk.2) (.int .i64 ((rd_T36 l0 x9_1).f2))) (fun _ hk => hk.2) (.slice A188_3 ((rd_T36 l0 x9_1).f3).length c188_3)) (fun _ hk => ⟨hk.1.1.1, ⟨hk.1.1.2, hk.1.2⟩⟩)))⟩; have n1_ : Aside0 (w12.heap[gb186]? = some (.cells #[.int .i64 0, .int .i64 0, .int .i64 0, .slice none 0 0] 36 (0, 0))) := ⟨(by rw [hw]; exact (by refine blk_far ?_ NB186_189.out _; refine blk_far ?_ NB186_189.out _; refine blk_far ?_ NB186_189.out _; refine blk_far ?_ NB186_189.out _; exact BK186.out))⟩; have n2_ : Aside0 (w12.heap[gb187]? = some (.cells #[.int .i64 x188000_1, .int .i64 x188001_1, .int .i64 x188002_1, u188003, .bool x188004_1] 56 (0, 0))) := ⟨(by rw [hw]; exact (by refine blk_far ?_ NB187_189.out _; refine blk_far ?_ NB187_189.out _; refine blk_far ?_ NB187_189.out _; refine blk_far ?_ NB187_189.out _; exact BK187.out))⟩; have n3_ : Aside0 (w12.heap[gb189]? = some (.cells #[.int .i64 ((rd_T36 l0 x9_1).f0), .int .i64 ((rd_T36 l0 x9_1).f1), .int .i64 ((rd_T36 l0 x9_1).f2), .slice A188_3 ((rd_T36 l0 x9_1).f3).length c188_3] 36 (0, 0))) := ⟨(by rw [hw]; exact (by refine blk_put (cs := #[.int .i64 ((rd_T36 l0 x9_1).f0), .int .i64 ((rd_T36 l0 x9_1).f1), .int .i64 ((rd_T36 l0 x9_1).f2), .slice none 0 0]) ?_ 3 _ rfl; refine blk_put (cs := #[.int .i64 ((rd_T36 l0 x9_1).f0), .int .i64 ((rd_T36 l0 x9_1).f1), .int .i64 0, .slice none 0 0]) ?_ 2 _ rfl; refine blk_put (cs := #[.int .i64 ((rd_T36 l0 x9_1).f0), .int .i64 0, .int .i64 0, .slice none 0 0]) ?_ 1 _ rfl; refine blk_put (cs := #[.int .i64 0, .int .i64 0, .int .i64 0, .slice none 0 0]) ?_ 0 _ rfl; exact BK189.out))⟩; have n4_ : Aside0 (Below w.heap.size w w12) := ⟨(by rw [hw]; exact (by repeat (with_reducible first | exact HB.out | apply pw_below_drewN | apply below_drew1 | refine below_set ?_ (Aside0.out (by assumption)))))⟩; clear hw; clear HO_188003; clear BK186; clear BK187; clear BK189; clear HB; have HO_188003 := n0_; have BK186 := n1_; have BK187 := n2_; have BK189 := n3_; have HB := n4_; clear n0_ n1_ n2_ n3_ n4_; have hnb13 := NB187_186.out; have hnc13 := NB186_187.out; have hcz14_0 : w12.cell? ⟨gb187, 0, none⟩ = some (.int .i64 x188000_1) := (blk_cell BK187.out 0).trans rfl; have hcz14_1 : w12.cell? ⟨gb187, 1, none⟩ = some (.int .i64 x188001_1) := (blk_cell BK187.out 1).trans rfl; have hcz14_2 : w12.cell? ⟨gb187, 2, none⟩ = some (.int .i64 x188002_1) := (blk_cell BK187.out 2).trans rfl; have hcz14_3 : w12.cell? ⟨gb187, 3, none⟩ = some (u188003) := (blk_cell BK187.out 3).trans rfl; have hcz14_4 : w12.cell? ⟨gb187, 4, none⟩ = some (.bool x188004_1) := (blk_cell BK187.out 4).trans rfl; have hfz14_0 := blk_frozen BK187.out 0; have hfz14_1 := blk_frozen BK187.out 1; have hfz14_2 := blk_frozen BK187.out 2; have hfz14_3 := blk_frozen BK187.out 3; have hfz14_4 := blk_frozen BK187.out 4; have hcz15_0 : w12.cell? ⟨gb189, 0, none⟩ = some (.int .i64 ((rd_T36 l0 x9_1).f0)) := (blk_cell BK189.out 0).trans rfl; have hcz15_1 : w12.cell? ⟨gb189, 1, none⟩ = some (.int .i64 ((rd_T36 l0 x9_1).f1)) := (blk_cell BK189.out 1).trans rfl; have hcz15_2 : w12.cell? ⟨gb189, 2, none⟩ = some (.int .i64 ((rd_T36 l0 x9_1).f2)) := (blk_cell BK189.out 2).trans rfl; have hcz15_3 : w12.cell? ⟨gb189, 3, none⟩ = some (.slice A188_3 ((rd_T36 l0 x9_1).f3).length c188_3) := (blk_cell BK189.out 3).trans rfl; have hfz15_0 := blk_frozen BK189.out 0; have hfz15_1 := blk_frozen BK189.out 1; have hfz15_2 := blk_frozen BK189.out 2; have hfz15_3 := blk_frozen BK189.out 3; obtain ⟨Ao16, co16, eo16⟩ := Kd.V_slice HO_188003.out; subst eo16) | ((with_reducible refine gate_callee (f := 35) rfl ?_); refine goesL_ (some 16) rfl rfl Try.func35 (by kernel_rfl) rfl #[.agg #[.int .i64 x188000_1, .int .i64 x188001_1, .int .i64 x188002_1, .slice Ao16 x188003_1.length co16, .bool x188004_1], .agg #[.int .i64 ((rd_T36 l0 x9_1).f0), .int .i64 ((rd_T36 l0 x9_1).f1), .int .i64 ((rd_T36 l0 x9_1).f2), .slice A188_3 ((rd_T36 l0 x9_1).f3).length c188_3]] rfl (by (try simp only [List.map_toArray, List.map_cons, List.map_nil]); first | done | rfl | (simp only [List.length_drop, List.length_take]; rfl)) ?_; (with_reducible refine (log_candidate_against.calls x188000_1 x188001_1 x188002_1 (fun k_ => (k_ ≠ gb186 ∧ (k_ ≠ gb187 ∧ k_ ≠ gb189))) _ _ x188003_1 x188004_1 ((rd_T36 l0 x9_1).f0) ((rd_T36 l0 x9_1).f1) ((rd_T36 l0 x9_1).f2) (fun k_ => k_ < w.heap.size) _ _ ((rd_T36 l0 x9_1).f3) t190 t191 t192 t193 t196 _ ?side1 ?side2 A7.out).mono ?_); (case side1 => exact HO_188003.out); (case side2 => exact Kd.V_mk HC188_3.out (Kd.F_below (Kd.C_F Kd.heap_string HR188_3.out) (by repeat (with_reducible first | exact HB.out | apply pw_below_drewN | apply below_drew1 | refine below_set ?_ (Aside0.out (by assumption)))))); rintro e w17 ⟨v194, rfl, ho0, hb⟩; refine ⟨_, rfl, ?_⟩; replace HO_188003 := Aside0.mk (Kd.V_below (HO_188003.out) hb); have HO195 := Aside0.mk (Kd.V_lower (Kd.V_mono (ok' := fun k_ => k_ ≠ gb186 ∧ k_ ≠ gb187 ∧ k_ ≠ gb189) ho0 (fun k_ hk_ => ⟨Or.elim hk_ (fun hs_ => Or.elim hs_ (fun hs_ => hs_.1) (fun hs_ => fun e_ => Nat.not_le.2 hs_ (by rw [e_]; exact GW186.out))) (fun hn_ => (Kd.freshB (g := gb186) (o := .cells #[.int .i64 0, .int .i64 0, .int .i64 0, .slice none 0 0] 36 (0, 0)) BK186.out k_ hn_)), Or.elim hk_ (fun hs_ => Or.elim hs_ (fun hs_ => hs_.2.1) (fun hs_ => fun e_ => Nat.not_le.2 hs_ (by rw [e_]; exact GW187.out))) (fun hn_ => (Kd.freshB (g := gb187) (o := .cells #[.int .i64 x188000_1, .int .i64 x188001_1, .int .i64 x188002_1, .slice Ao16 x188003_1.length co16, .bool x188004_1] 56 (0, 0)) BK187.out k_ hn_)), Or.elim hk_ (fun hs_ => Or.elim hs_ (fun hs_ => hs_.2.2) (fun hs_ => fun e_ => Nat.not_le.2 hs_ (by rw [e_]; exact GW189.out))) (fun hn_ => (Kd.freshB (g := gb189) (o := .cells #[.int .i64 ((rd_T36 l0 x9_1).f0), .int .i64 ((rd_T36 l0 x9_1).f1), .int .i64 ((rd_T36 l0 x9_1).f2), .slice A188_3 ((rd_T36 l0 x9_1).f3).length c188_3] 36 (0, 0)) BK189.out k_ hn_))⟩)) (below_size (by repeat (with_reducible first | exact HB.out | apply pw_below_drewN | apply below_drew1 | refine below_set ?_ (Aside0.out (by assumption)))))); replace BK186 := bl_ BK186 hb; replace BK187 := bl_ BK187 hb; replace BK189 := bl_ BK189 hb; replace HB := Aside0.mk (below_step (by repeat (with_reducible first | exact HB.out | apply pw_below_drewN | apply below_drew1 | refine below_set ?_ (Aside0.out (by assumption)))) hb); (try clear hb); (try clear hb2); (try clear hk); (try clear hi); (try clear ho0); have hcz18_0 : w17.cell? ⟨gb187, 0, none⟩ = some (.int .i64 x188000_1) := (blk_cell BK187.out 0).trans rfl; have hcz18_1 : w17.cell? ⟨gb187, 1, none⟩ = some (.int .i64 x188001_1) := (blk_cell BK187.out 1).trans rfl; have hcz18_2 : w17.cell? ⟨gb187, 2, none⟩ = some (.int .i64 x188002_1) := (blk_cell BK187.out 2).trans rfl; have hcz18_3 : w17.cell? ⟨gb187, 3, none⟩ = some (.slice Ao16 x188003_1.length co16) := (blk_cell BK187.out 3).trans rfl; have hcz18_4 : w17.cell? ⟨gb187, 4, none⟩ = some (.bool x188004_1) := (blk_cell BK187.out 4).trans rfl; have hfz18_0 := blk_frozen BK187.out 0; have hfz18_1 := blk_frozen BK187.out 1; have hfz18_2 := blk_frozen BK187.out 2; have hfz18_3 := blk_frozen BK187.out 3; have hfz18_4 := blk_frozen BK187.out 4; obtain ⟨Ao19, co19, eo19⟩ := Kd.V_slice HO195.out; subst eo19))
            go_roundg k1
            case measure => have := HK1.out; omega
            case rel => exact ⟨(wrap64 (x9_1 + 1)), (t190), (t191), (t192), (t193), (t196), (.slice Ao19 t193.length co19), (by first | rfl | (simp; done) | (simp [*]; done)), H', ⟨by have := HK1.out; omega⟩, ⟨by (with_reducible repeat (first | apply Kd.V_alloc | apply Kd.V_drewN | apply Kd.V_drew)); exact Kd.V_mono (Kd.V_far (p := ⟨gb187, 4, none⟩) (Kd.V_far (p := ⟨gb187, 3, none⟩) (Kd.V_far (p := ⟨gb187, 2, none⟩) (Kd.V_far (p := ⟨gb187, 1, none⟩) (Kd.V_far (p := ⟨gb187, 0, none⟩) (Kd.V_mono HO195.out (fun k_ hk => (⟨hk, hk.2.1⟩ : _ ∧ k_ ≠ gb187))) (fun _ hk => hk.2) (.int .i64 t190)) (fun _ hk => hk.2) (.int .i64 t191)) (fun _ hk => hk.2) (.int .i64 t192)) (fun _ hk => hk.2) (.slice Ao19 t193.length co19)) (fun _ hk => hk.2) (.bool t196)) (fun _ hk => ⟨hk.1.1, hk.1.2.1⟩)⟩, ⟨by (with_reducible repeat (first | refine blk_drewN ?_ _ | refine blk_drew ?_ | refine blk_alloc ?_ _)); refine blk_far ?_ NB186_187.out _; (with_reducible repeat (first | refine blk_drewN ?_ _ | refine blk_drew ?_ | refine blk_alloc ?_ _)); refine blk_far ?_ NB186_187.out _; (with_reducible repeat (first | refine blk_drewN ?_ _ | refine blk_drew ?_ | refine blk_alloc ?_ _)); refine blk_far ?_ NB186_187.out _; (with_reducible repeat (first | refine blk_drewN ?_ _ | refine blk_drew ?_ | refine blk_alloc ?_ _)); refine blk_far ?_ NB186_187.out _; (with_reducible repeat (first | refine blk_drewN ?_ _ | refine blk_drew ?_ | refine blk_alloc ?_ _)); refine blk_far ?_ NB186_187.out _; (with_reducible repeat (first | refine blk_drewN ?_ _ | refine blk_drew ?_ | refine blk_alloc ?_ _)); exact BK186.out⟩, ⟨by (with_reducible repeat (first | refine blk_drewN ?_ _ | refine blk_drew ?_ | refine blk_alloc ?_ _)); refine blk_put (cs := #[.int .i64 t190, .int .i64 t191, .int .i64 t192, .slice Ao19 t193.length co19, .bool x188004_1]) ?_ 4 _ rfl; (with_reducible repeat (first | refine blk_drewN ?_ _ | refine blk_drew ?_ | refine blk_alloc ?_ _)); refine blk_put (cs := #[.int .i64 t190, .int .i64 t191, .int .i64 t192, .slice Ao16 x188003_1.length co16, .bool x188004_1]) ?_ 3 _ rfl; (with_reducible repeat (first | refine blk_drewN ?_ _ | refine blk_drew ?_ | refine blk_alloc ?_ _)); refine blk_put (cs := #[.int .i64 t190, .int .i64 t191, .int .i64 x188002_1, .slice Ao16 x188003_1.length co16, .bool x188004_1]) ?_ 2 _ rfl; (with_reducible repeat (first | refine blk_drewN ?_ _ | refine blk_drew ?_ | refine blk_alloc ?_ _)); refine blk_put (cs := #[.int .i64 t190, .int .i64 x188001_1, .int .i64 x188002_1, .slice Ao16 x188003_1.length co16, .bool x188004_1]) ?_ 1 _ rfl; (with_reducible repeat (first | refine blk_drewN ?_ _ | refine blk_drew ?_ | refine blk_alloc ?_ _)); refine blk_put (cs := #[.int .i64 x188000_1, .int .i64 x188001_1, .int .i64 x188002_1, .slice Ao16 x188003_1.length co16, .bool x188004_1]) ?_ 0 _ rfl; (with_reducible repeat (first | refine blk_drewN ?_ _ | refine blk_drew ?_ | refine blk_alloc ?_ _)); exact BK187.out⟩, ⟨by repeat (with_reducible first | exact HB.out | apply pw_below_drewN | apply below_drew1 | refine below_set ?_ (Aside0.out (by assumption)))⟩⟩
          · rw [if_neg c6] at H
            exact absurd H (by simp)
        · rw [if_neg c5] at H
          exact absurd H (by simp)
      · rw [if_neg c4] at H
        have c4b0 : decide (x9_1 < (l0.length : Int)) = false := decide_eq_false c4
        clear c4
        replace H := Option.bind_eq_some_iff.mp H
        obtain ⟨⟨t197, t198, t199, t200⟩, A200, H⟩ := H
        replace H : (some (t197, t198, t199, t200, x188004_1)) = some (r1, r2, r3, r4, r5) := H
        have A20 := Aside0.mk A200
        clear A200
        simp only [Option.some.injEq, Prod.mk.injEq] at H
        obtain ⟨rfl, rfl, rfl, rfl, rfl⟩ := H
        try go_wp2
        replace HO_188003 := Aside0.mk (Kd.V_drew HO_188003.out)
        replace BK186 := Aside0.mk (blk_drew BK186.out)
        replace BK187 := Aside0.mk (blk_drew BK187.out)
        replace HB := Aside0.mk (below_drew1 HB.out)
        obtain ⟨Ao22, co22, eo22⟩ := Kd.V_slice HO_188003.out
        (first | subst eo22 | (injection eo22 with f1_ f2_ f3_; have f4_ := f1_.symm; have f5_ := f3_.symm; clear f1_ f2_ f3_; subst f4_; subst f5_))
        refine start_ (n := 7) (S := fun w' => w'.cell? ⟨gb187, 0, none⟩ = some (.int .i64 x188000_1) ∧ w'.cell? ⟨gb187, 1, none⟩ = some (.int .i64 x188001_1) ∧ w'.cell? ⟨gb187, 2, none⟩ = some (.int .i64 x188002_1) ∧ w'.cell? ⟨gb187, 3, none⟩ = some (.slice Ao22 x188003_1.length co22) ∧ w'.cell? ⟨gb187, 4, none⟩ = some (.bool x188004_1)) (ds := []) #[false, false, false, false, false, false, false] (by kernel_rfl) rfl rfl ⟨(blk_cell BK187.out 0).trans rfl, (blk_cell BK187.out 1).trans rfl, (blk_cell BK187.out 2).trans rfl, (blk_cell BK187.out 3).trans rfl, (blk_cell BK187.out 4).trans rfl⟩ (fun hHeld => ?_)
        generalize wr.drew = w21 at HO_188003 BK186 BK187 HB hHeld ⊢
        refine pure_ (i := 0) (N := some 18) (v := ?_) (a' := ?_) (dn_ 1 7) rfl rfl (by kernel_rfl) (fun _ _ _ h => h) (Or.inl ⟨by rfl, ?_⟩) ?_ ?_
        rotate_left
        · intro w'
          go_simp
          with_reducible rfl
        rotate_left; (simp only [Act.put, List.setIfInBounds_toArray, List.set_cons_zero, List.set_cons_succ, i64_w, i32_w]; rfl)
        refine pure_ (i := 3) (N := some 21) (v := ?_) (a' := ?_) #[true, false, false, true, false, false, false] rfl rfl (by kernel_rfl) (fun _ _ _ h => h) (Or.inl ⟨by rfl, ?_⟩) ?_ ?_
        rotate_left
        · intro w'
          go_simp
          with_reducible rfl
        rotate_left; (simp only [Act.put, List.setIfInBounds_toArray, List.set_cons_zero, List.set_cons_succ, i64_w, i32_w]; rfl)
        refine take_ (i := 1) (N := some 19) (v := ?_) (a' := ?_) #[true, true, false, true, false, false, false] rfl rfl (by kernel_rfl) (fun _ _ _ h => h) (Or.inl ⟨by rfl, ?_⟩) hHeld ?_ ?_
        rotate_left
        · rintro w' ⟨s0, s1, s2, s3, s4⟩
          go_simp
          with_reducible rfl
        rotate_left; (simp only [Act.put, List.setIfInBounds_toArray, List.set_cons_zero, List.set_cons_succ, i64_w, i32_w]; rfl)
        refine take_ (i := 4) (N := some 22) (v := ?_) (a' := ?_) #[true, true, false, true, true, false, false] rfl rfl (by kernel_rfl) (fun _ _ _ h => h) (Or.inl ⟨by rfl, ?_⟩) hHeld ?_ ?_
        rotate_left
        · rintro w' ⟨s0, s1, s2, s3, s4⟩
          go_simp
          with_reducible rfl
        rotate_left; (simp only [Act.put, List.setIfInBounds_toArray, List.set_cons_zero, List.set_cons_succ, i64_w, i32_w]; rfl)
        refine one_ (i := 2) (N := some 20) (dn_ 5 7) rfl rfl (by kernel_rfl) (by decide) (fun K hK => ?_)
        refine goes_ Try.func36 (by kernel_rfl) rfl #[.agg #[.int .i64 x188000_1, .int .i64 x188001_1, .int .i64 x188002_1, .slice Ao22 x188003_1.length co22]] (by rfl) rfl rfl (by (try simp only [List.map_toArray, List.map_cons, List.map_nil]); first | done | rfl | (simp only [List.length_drop, List.length_take]; rfl)) ?_
        with_reducible refine (log_vote_own.calls x188000_1 x188001_1 x188002_1 _ _ x188003_1 t197 t198 t199 t200 _ ?side1 ?side2 A20.out).mono ?_
        (case side1 => repeat (first | exact (Kd.V_reads' HO_188003.out).2.2 | (with_reducible refine Kd.C_alloc ?_ _) | (with_reducible refine Kd.C_drewN ?_ _) | (with_reducible refine Kd.C_drew ?_)))
        (case side2 => exact (Kd.V_reads' HO_188003.out).2.1)
        rintro e w23 ⟨v201, rfl, ho0, hb⟩
        refine ⟨_, rfl, ?_⟩
        replace HO_188003 := Aside0.mk (Kd.V_elder' (HO_188003.out) (Kd.R_base ho0) hb)
        have HO202 := Aside0.mk (Kd.R_lower ho0 (below_size (by repeat (with_reducible first | exact HB.out | apply pw_below_drewN | apply below_drew1 | refine below_set ?_ (Aside0.out (by assumption))))))
        replace BK186 := bl_ BK186 hb
        replace BK187 := bl_ BK187 hb
        replace HB := Aside0.mk (below_step (by repeat (with_reducible first | exact HB.out | apply pw_below_drewN | apply below_drew1 | refine below_set ?_ (Aside0.out (by assumption)))) hb)
        (try clear hb)
        (try clear hb2)
        (try clear hk)
        (try clear hi)
        (try clear ho0)
        obtain ⟨Ao27, co27, eo27⟩ := Kd.R_slice HO202.out
        (first | subst eo27 | (injection eo27 with f1_ f2_ f3_; have f4_ := f1_.symm; have f5_ := f3_.symm; clear f1_ f2_ f3_; subst f4_; subst f5_))
        refine hK.out _ _ ⟨(blk_cell BK187.out 0).trans rfl, (blk_cell BK187.out 1).trans rfl, (blk_cell BK187.out 2).trans rfl, (blk_cell BK187.out 3).trans rfl, (blk_cell BK187.out 4).trans rfl⟩ (fun hHeld => ?_)
        clear hK K
        refine norm_ (a' := ?_) ?_ ?_
        rotate_left
        · show Act.put _ (some 20) _ = _
          simp only [Act.put, List.setIfInBounds_toArray, List.set_cons_zero, List.set_cons_succ, i64_w, i32_w]
          rfl
        refine one_ (i := 5) (N := none) (dn_ 6 7) rfl rfl (by kernel_rfl) (by decide) (fun K hK => ?_)
        have hs24 : w23.cell? ⟨gb186, 0, none⟩ = some (.int .i64 0) := (blk_cell BK186.out 0).trans rfl
        have hfs24 := blk_frozen BK186.out 0
        have hns24_1 := NB187_186.out
        have hms24_1 := NB186_187.out
        have hs25 : w23.cell? ⟨gb186, 1, none⟩ = some (.int .i64 0) := (blk_cell BK186.out 1).trans rfl
        have hfs25 := blk_frozen BK186.out 1
        have hns25_1 := NB187_186.out
        have hms25_1 := NB186_187.out
        have hs26 : w23.cell? ⟨gb186, 2, none⟩ = some (.int .i64 0) := (blk_cell BK186.out 2).trans rfl
        have hfs26 := blk_frozen BK186.out 2
        have hns26_1 := NB187_186.out
        have hms26_1 := NB186_187.out
        have hs28 : w23.cell? ⟨gb186, 3, none⟩ = some (.slice none 0 0) := (blk_cell BK186.out 3).trans rfl
        have hfs28 := blk_frozen BK186.out 3
        have hns28_1 := NB187_186.out
        have hms28_1 := NB186_187.out
        refine skip_ (w1 := ?_) (by rfl) rfl ?_ ?_
        rotate_left
        · go_simp
          rfl
        refine hK.out _ _ ⟨((cell_far (p := ⟨gb186, _, none⟩) NB187_186.out _).trans (((cell_far (p := ⟨gb186, _, none⟩) NB187_186.out _).trans (((cell_far (p := ⟨gb186, _, none⟩) NB187_186.out _).trans (((cell_far (p := ⟨gb186, _, none⟩) NB187_186.out _).trans (hHeld.1)))))))), ((cell_far (p := ⟨gb186, _, none⟩) NB187_186.out _).trans (((cell_far (p := ⟨gb186, _, none⟩) NB187_186.out _).trans (((cell_far (p := ⟨gb186, _, none⟩) NB187_186.out _).trans (((cell_far (p := ⟨gb186, _, none⟩) NB187_186.out _).trans (hHeld.2.1)))))))), ((cell_far (p := ⟨gb186, _, none⟩) NB187_186.out _).trans (((cell_far (p := ⟨gb186, _, none⟩) NB187_186.out _).trans (((cell_far (p := ⟨gb186, _, none⟩) NB187_186.out _).trans (((cell_far (p := ⟨gb186, _, none⟩) NB187_186.out _).trans (hHeld.2.2.1)))))))), ((cell_far (p := ⟨gb186, _, none⟩) NB187_186.out _).trans (((cell_far (p := ⟨gb186, _, none⟩) NB187_186.out _).trans (((cell_far (p := ⟨gb186, _, none⟩) NB187_186.out _).trans (((cell_far (p := ⟨gb186, _, none⟩) NB187_186.out _).trans (hHeld.2.2.2.1)))))))), ((cell_far (p := ⟨gb186, _, none⟩) NB187_186.out _).trans (((cell_far (p := ⟨gb186, _, none⟩) NB187_186.out _).trans (((cell_far (p := ⟨gb186, _, none⟩) NB187_186.out _).trans (((cell_far (p := ⟨gb186, _, none⟩) NB187_186.out _).trans (hHeld.2.2.2.2))))))))⟩ (fun hHeld => ?_)
        clear hK K
        refine pure_ (i := 6) (N := some 3) (v := ?_) (a' := ?_) #[true, true, true, true, true, true, true] rfl rfl (by kernel_rfl) (fun _ _ _ h => h) (Or.inl ⟨by rfl, ?_⟩) ?_ ?_
        rotate_left
        · intro w'
          go_simp
          with_reducible rfl
        rotate_left; (simp only [Act.put, List.setIfInBounds_toArray, List.set_cons_zero, List.set_cons_succ, i64_w, i32_w]; rfl)
        refine done_ (by kernel_rfl) ?_
        try go_wp2
        refine bodyPost_ret (results_ct rfl _ _ gb186 36 #[.int .i64 t197, .int .i64 t198, .int .i64 t199, .slice Ao27 t200.length co27] (0, 0) _ rfl (by refine blk_put (cs := #[.int .i64 t197, .int .i64 t198, .int .i64 t199, .slice none 0 0]) ?_ 3 _ rfl; refine blk_put (cs := #[.int .i64 t197, .int .i64 t198, .int .i64 0, .slice none 0 0]) ?_ 2 _ rfl; refine blk_put (cs := #[.int .i64 t197, .int .i64 0, .int .i64 0, .slice none 0 0]) ?_ 1 _ rfl; refine blk_put (cs := #[.int .i64 0, .int .i64 0, .int .i64 0, .slice none 0 0]) ?_ 0 _ rfl; exact BK186.out) Try.underlying36 rfl (by kernel_rfl)) rfl ?_
        exact ⟨_, by first | rfl | (simp [errW_none, errW_some] <;> rfl) | (simp [*, errW_none, errW_some] <;> rfl), by (with_reducible repeat (first | apply Kd.R_alloc | apply Kd.R_drewN | apply Kd.R_drew)); exact Kd.R_mono (rf4 (Kd.R_types HO202.out BK186.out (by decide)) (fun _ hk => hk.2) (.int .i64 t197) (.int .i64 t198) (.int .i64 t199) (.slice Ao27 t200.length co27)) (fun _ hk => trivial), by repeat (with_reducible first | exact HB.out | apply pw_below_drewN | apply below_drew1 | refine below_set ?_ (Aside0.out (by assumption)))⟩

end Go.Proofs.Ytncoccpgdgdknaa.F
