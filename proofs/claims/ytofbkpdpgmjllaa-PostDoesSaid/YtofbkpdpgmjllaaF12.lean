-- Written by a program of this session (xprint.py), out of the translation and of contracts proved by hand.
import Derived.Test.YtofbkpdpgmjllaaF0
import Derived.Test.YtofbkpdpgmjllaaF7
import Derived.Test.YtofbkpdpgmjllaaF8
import Derived.Test.YtofbkpdpgmjllaaF9
import Derived.Test.YtofbkpdpgmjllaaF11
namespace Go.Proofs.Ytofbkpdpgmjllaa.F
open Go.RowKit Go.Proofs.YtofbkpdpgmjllaaV.PrintWords Go.Proofs.YtofbkpdpgmjllaaV.PrintLast Go.Proofs.YtofbkpdpgmjllaaV.PrintMore
attribute [local go_sem] max2_int min2_int max_two min_two max_three min_three max_four min_four   -- for this text's walks alone
set_option linter.unusedVariables false
set_option linter.unusedSimpArgs false

/-! ### watchmanref21_find: function 36 -/
def watchmanref21_find.l0 : Nat → Int → Int → Int → List (S35) → Option (Int × Int × Int × ByteArray × Bool)
  | 0, _, _, _, _ => none
  | k + 1, x1, x6, x171000, x171001 => if x6 < (x171001.length : Int) then (if 0 ≤ x6 then (if ((rd_T35 x171001 x6).f0) = x1 then (some ((rd_T35 x171001 x6).f0, (rd_T35 x171001 x6).f1, (rd_T35 x171001 x6).f2, (rd_T35 x171001 x6).f3, true)) else (watchmanref21_find.l0 k x1 (wrap64 (x6 + 1)) x171000 x171001)) else (none)) else (some (0, 0, 0, (⟨#[]⟩ : ByteArray), false))
def watchmanref21_find.f (k : Nat) (a0_0 : Int) (l0_1 : List (S35)) (a1 : Int) : Option (Int × Int × Int × ByteArray × Bool) := watchmanref21_find.l0 k a1 0 a0_0 l0_1
theorem watchmanref21_find.mono_l : ∀ k, (∀ y0 y1 y2 y3, LeO (watchmanref21_find.l0 k y0 y1 y2 y3) (watchmanref21_find.l0 (k + 1) y0 y1 y2 y3))
  | 0 => fun _ _ _ _ r h => by simp [watchmanref21_find.l0] at h
  | k + 1 => by
    have ih0 := watchmanref21_find.mono_l k
    · intro y0 y1 y2 y3
      unfold watchmanref21_find.l0
      repeat' first
      | (with_reducible exact ih0 _ _ _ _)
      | (with_reducible exact LeO.refl _)
      | (with_reducible exact LeO.none _)
      | (with_reducible refine LeO.ite ?_ ?_)
      | (with_reducible refine LeO.bind ?_ (fun _ => ?_))
      | exact ih0 _ _ _ _
      | exact LeO.none _
      | refine LeO.ite ?_ ?_
      | refine LeO.bind ?_ (fun _ => ?_)
theorem watchmanref21_find.mono : ∀ a0 a1 a2 k, LeO (watchmanref21_find.f k a0 a1 a2) (watchmanref21_find.f (k + 1) a0 a1 a2) := by
  intro a0 a1 a2 k
  have ih0 := watchmanref21_find.mono_l k
  unfold watchmanref21_find.f
  repeat' first
      | (with_reducible exact ih0 _ _ _ _)
      | (with_reducible exact LeO.refl _)
      | (with_reducible exact LeO.none _)
      | (with_reducible refine LeO.ite ?_ ?_)
      | (with_reducible refine LeO.bind ?_ (fun _ => ?_))
      | exact ih0 _ _ _ _
      | exact LeO.none _
      | refine LeO.ite ?_ ?_
      | refine LeO.bind ?_ (fun _ => ?_)
set_option maxHeartbeats 8000000 in
set_option maxRecDepth 100000 in
theorem watchmanref21_find.calls (k : Nat) (a0_0 : Int) (A0_1 : Option Addr) (c0_1 : Nat) (l0_1 : List (S35)) (a1 : Int) (r1 : Int) (r2 : Int) (r3 : Int) (r4 : ByteArray) (r5 : Bool) (w : World) (hr0_1 : Kd.C k35 w A0_1 l0_1.length l0_1) (hc0_1 : l0_1.length ≤ c0_1) (h : watchmanref21_find.f k a0_0 l0_1 a1 = some (r1, r2, r3, r4, r5)) :
    Calls Try.prog 36 #[.agg #[.int .i64 a0_0, .slice A0_1 l0_1.length c0_1], .int .i64 a1] w fun e w' => e = .returned (.tuple #[.agg #[.int .i64 r1, .int .i64 r2, .int .i64 r3, .string r4], .bool r5]) ∧ Below w.heap.size w w' := by
  have hu24 := Try.underlying24
  have hu35 := Try.underlying35
  have HR0_1 := Aside0.mk hr0_1
  have HC0_1 := Aside0.mk hc0_1
  clear hr0_1 hc0_1
  have HB := Aside0.mk (Below.refl w.heap.size w)
  have H : (watchmanref21_find.l0 k a1 0 a0_0 l0_1) = some (r1, r2, r3, r4, r5) := h
  clear h
  have H' := Aside0.mk H
  clear H
  go_enter Try.func36, Try.ntmps36
  go_wp2_with (first | ((with_reducible refine gate_dst (N := 2) rfl ?_); refine box_event ?hg (N := 2) ?hd (cs := #[.int .i64 a0_0, .slice A0_1 l0_1.length c0_1]) (t := 24) ?hr ?_; (case hd => rfl); (case hg => rfl); (case hr => first | (go_simp; done) | (go_simp; rfl)); intro gb170 hg w3 hbox hb; have BK170 := Aside0.mk (hbox); have GW170 := Aside0.mk ((by rw [hg]; exact (below_size HB.out) : w.heap.size ≤ gb170)); have GE170 := Aside0.mk ((by rw [hg]; exact (below_size HB.out) : w.heap.size ≤ gb170)); replace HB := Aside0.mk (below_step HB.out hb); clear hb hbox hg) | ((with_reducible refine gate_dst (N := 4) rfl ?_); refine box_event ?hg (N := 4) ?hd (cs := #[.int .i64 0, .int .i64 0, .int .i64 0, .string (⟨#[]⟩ : ByteArray)]) (t := 35) ?hr ?_; (case hd => rfl); (case hg => rfl); (case hr => first | (go_simp; done) | (go_simp; rfl)); intro gb171 hg w4 hbox hb; have BK171 := Aside0.mk (hbox); have GW171 := Aside0.mk ((by rw [hg]; exact (below_size (by repeat (with_reducible first | exact HB.out | apply pw_below_drewN | apply below_drew1 | refine below_set ?_ GE170.out))) : w.heap.size ≤ gb171)); have GE171 := Aside0.mk ((by rw [hg]; exact (below_size (by repeat (with_reducible first | exact HB.out | apply pw_below_drewN | apply below_drew1 | refine below_set ?_ GE170.out))) : w.heap.size ≤ gb171)); replace HB := Aside0.mk (below_step (by repeat (with_reducible first | exact HB.out | apply pw_below_drewN | apply below_drew1 | refine below_set ?_ GE170.out)) hb); have NB170_171 := Aside0.mk ((by rw [hg]; exact Nat.ne_of_lt (blk_lt BK170.out) : gb170 ≠ gb171)); have NB171_170 := Aside0.mk ((by rw [hg]; exact Nat.ne_of_gt (blk_lt BK170.out) : gb171 ≠ gb170)); replace BK170 := bl_ BK170 hb; clear hb hbox hg))
  go_loopg [6] k (fun kq v6 w' => ∃ (x6_1 : Int) (x172000_1 : Int) (x172001_1 : Int) (x172002_1 : Int) (x172003_1 : ByteArray), v6 = .int .i64 x6_1 ∧ Aside0 (watchmanref21_find.l0 kq a1 x6_1 a0_0 l0_1 = some (r1, r2, r3, r4, r5)) ∧ Aside0 (kq ≤ k) ∧ Aside0 (w'.heap[gb170]? = some (.cells #[.int .i64 a0_0, (.slice A0_1 l0_1.length c0_1)] 24 (0, 0))) ∧ Aside0 (w'.heap[gb171]? = some (.cells #[.int .i64 x172000_1, .int .i64 x172001_1, .int .i64 x172002_1, .string x172003_1] 35 (0, 0))) ∧ Aside0 (Below w.heap.size w w'))
  case atStart => exact ⟨(0), (0), (0), (0), ((⟨#[]⟩ : ByteArray)), (by first | rfl | (simp; done) | (simp [*]; done)), H', ⟨Nat.le_refl _⟩, ⟨by (with_reducible repeat (first | refine blk_drewN ?_ _ | refine blk_drew ?_ | refine blk_alloc ?_ _)); exact BK170.out⟩, ⟨by (with_reducible repeat (first | refine blk_drewN ?_ _ | refine blk_drew ?_ | refine blk_alloc ?_ _)); exact BK171.out⟩, ⟨by repeat (with_reducible first | exact HB.out | apply pw_below_drewN | apply below_drew1 | refine below_set ?_ (Aside0.out (by assumption)))⟩⟩
  case round =>
    clear H'
    try clear p2
    try clear c3
    obtain ⟨x6_1, x172000_1, x172001_1, x172002_1, x172003_1, rfl, HA, HK1, BK170, BK171, HB⟩ := hrel
    cases gk with
    | zero => exact absurd HA.out (by simp [watchmanref21_find.l0])
    | succ k1 =>
      have H := HA.out
      clear HA
      simp only [watchmanref21_find.l0] at H
      by_cases c5 : x6_1 < (l0_1.length : Int)
      · rw [if_pos c5] at H
        have c5b0 : decide (x6_1 < (l0_1.length : Int)) = true := decide_eq_true c5
        clear c5
        by_cases c6 : 0 ≤ x6_1
        · rw [if_pos c6] at H
          have c6b0 : decide (0 ≤ x6_1) = true := decide_eq_true c6
          clear c6
          by_cases c7 : ((rd_T35 l0_1 x6_1).f0) = a1
          · rw [if_pos c7] at H
            have c7b0 : (((rd_T35 l0_1 x6_1).f0) == a1) = true := beq_iff_eq.mpr c7
            have c7b1 : (((rd_T35 l0_1 x6_1).f0) != a1) = false := bne_eq_false_iff_eq.mpr c7
            clear c7
            simp only [Option.some.injEq, Prod.mk.injEq] at H
            obtain ⟨rfl, rfl, rfl, rfl, rfl⟩ := H
            have hnb8 := NB170_171.out
            have hnc8 := NB171_170.out
            have hcz9_0 : wr.cell? ⟨gb170, 0, none⟩ = some (.int .i64 a0_0) := (blk_cell BK170.out 0).trans rfl
            have hcz9_1 : wr.cell? ⟨gb170, 1, none⟩ = some (.slice A0_1 l0_1.length c0_1) := (blk_cell BK170.out 1).trans rfl
            have hfz9_0 := blk_frozen BK170.out 0
            have hfz9_1 := blk_frozen BK170.out 1
            have p172 : 0 ≤ (x6_1 : Int) := of_decide_eq_true (by first | (with_reducible assumption) | assumption)
            have q172 : x6_1 < (l0_1.length : Int) := of_decide_eq_true (by first | (with_reducible assumption) | assumption)
            obtain ⟨ad172, e172, hx172_0, hx172_1, hx172_2, hx172_3⟩ := at_T35 HR0_1.out x6_1 p172 q172
            cases e172
            replace hx172_0 := (HB.out.cell (World.block_lt_of_cell? w _ hx172_0)).trans hx172_0
            replace hx172_1 := (HB.out.cell (World.block_lt_of_cell? w _ hx172_1)).trans hx172_1
            replace hx172_2 := (HB.out.cell (World.block_lt_of_cell? w _ hx172_2)).trans hx172_2
            replace hx172_3 := (HB.out.cell (World.block_lt_of_cell? w _ hx172_3)).trans hx172_3
            replace p172 := eq_true p172
            replace q172 := eq_true q172
            have p173 : 0 ≤ (x6_1 : Int) := of_decide_eq_true (by first | (with_reducible assumption) | assumption)
            have q173 : x6_1 < (l0_1.length : Int) := of_decide_eq_true (by first | (with_reducible assumption) | assumption)
            obtain ⟨ad173, e173, hx173_0, hx173_1, hx173_2, hx173_3⟩ := at_T35 HR0_1.out x6_1 p173 q173
            obtain rfl : ad172 = ad173 := (by injection e173)
            replace hx173_0 := (HB.out.cell (World.block_lt_of_cell? w _ hx173_0)).trans hx173_0
            replace hx173_1 := (HB.out.cell (World.block_lt_of_cell? w _ hx173_1)).trans hx173_1
            replace hx173_2 := (HB.out.cell (World.block_lt_of_cell? w _ hx173_2)).trans hx173_2
            replace hx173_3 := (HB.out.cell (World.block_lt_of_cell? w _ hx173_3)).trans hx173_3
            replace p173 := eq_true p173
            replace q173 := eq_true q173
            have hcz10_0 : wr.cell? ⟨gb171, 0, none⟩ = some (.int .i64 x172000_1) := (blk_cell BK171.out 0).trans rfl
            have hcz10_1 : wr.cell? ⟨gb171, 1, none⟩ = some (.int .i64 x172001_1) := (blk_cell BK171.out 1).trans rfl
            have hcz10_2 : wr.cell? ⟨gb171, 2, none⟩ = some (.int .i64 x172002_1) := (blk_cell BK171.out 2).trans rfl
            have hcz10_3 : wr.cell? ⟨gb171, 3, none⟩ = some (.string x172003_1) := (blk_cell BK171.out 3).trans rfl
            have hfz10_0 := blk_frozen BK171.out 0
            have hfz10_1 := blk_frozen BK171.out 1
            have hfz10_2 := blk_frozen BK171.out 2
            have hfz10_3 := blk_frozen BK171.out 3
            go_wp2
            refine bodyPost_ret (results_ct rfl _ _ gb171 35 #[.int .i64 ((rd_T35 l0_1 x6_1).f0), .int .i64 ((rd_T35 l0_1 x6_1).f1), .int .i64 ((rd_T35 l0_1 x6_1).f2), .string ((rd_T35 l0_1 x6_1).f3)] (0, 0) _ rfl (by refine blk_put (cs := #[.int .i64 ((rd_T35 l0_1 x6_1).f0), .int .i64 ((rd_T35 l0_1 x6_1).f1), .int .i64 ((rd_T35 l0_1 x6_1).f2), .string x172003_1]) ?_ 3 _ rfl; refine blk_put (cs := #[.int .i64 ((rd_T35 l0_1 x6_1).f0), .int .i64 ((rd_T35 l0_1 x6_1).f1), .int .i64 x172002_1, .string x172003_1]) ?_ 2 _ rfl; refine blk_put (cs := #[.int .i64 ((rd_T35 l0_1 x6_1).f0), .int .i64 x172001_1, .int .i64 x172002_1, .string x172003_1]) ?_ 1 _ rfl; refine blk_put (cs := #[.int .i64 x172000_1, .int .i64 x172001_1, .int .i64 x172002_1, .string x172003_1]) ?_ 0 _ rfl; exact BK171.out) Try.underlying35 rfl (by kernel_rfl)) rfl ?_
            exact ⟨by first | rfl | (simp [errW_none, errW_some] <;> rfl) | (simp [*, errW_none, errW_some] <;> rfl), by repeat (with_reducible first | exact HB.out | apply pw_below_drewN | apply below_drew1 | refine below_set ?_ (Aside0.out (by assumption)))⟩
          · rw [if_neg c7] at H
            have c7b0 : (((rd_T35 l0_1 x6_1).f0) == a1) = false := beq_eq_false_iff_ne.mpr c7
            have c7b1 : (((rd_T35 l0_1 x6_1).f0) != a1) = true := bne_iff_ne.mpr c7
            have H' := Aside0.mk H
            clear H
            have hnb11 := NB170_171.out
            have hnc11 := NB171_170.out
            have hcz12_0 : wr.cell? ⟨gb170, 0, none⟩ = some (.int .i64 a0_0) := (blk_cell BK170.out 0).trans rfl
            have hcz12_1 : wr.cell? ⟨gb170, 1, none⟩ = some (.slice A0_1 l0_1.length c0_1) := (blk_cell BK170.out 1).trans rfl
            have hfz12_0 := blk_frozen BK170.out 0
            have hfz12_1 := blk_frozen BK170.out 1
            have p172 : 0 ≤ (x6_1 : Int) := of_decide_eq_true (by first | (with_reducible assumption) | assumption)
            have q172 : x6_1 < (l0_1.length : Int) := of_decide_eq_true (by first | (with_reducible assumption) | assumption)
            obtain ⟨ad172, e172, hx172_0, hx172_1, hx172_2, hx172_3⟩ := at_T35 HR0_1.out x6_1 p172 q172
            cases e172
            replace hx172_0 := (HB.out.cell (World.block_lt_of_cell? w _ hx172_0)).trans hx172_0
            replace hx172_1 := (HB.out.cell (World.block_lt_of_cell? w _ hx172_1)).trans hx172_1
            replace hx172_2 := (HB.out.cell (World.block_lt_of_cell? w _ hx172_2)).trans hx172_2
            replace hx172_3 := (HB.out.cell (World.block_lt_of_cell? w _ hx172_3)).trans hx172_3
            replace p172 := eq_true p172
            replace q172 := eq_true q172
            go_wp2
            go_roundg k1
            case measure => have := HK1.out; omega
            case rel => exact ⟨(wrap64 (x6_1 + 1)), (x172000_1), (x172001_1), (x172002_1), (x172003_1), (by first | rfl | (simp; done) | (simp [*]; done)), H', ⟨by have := HK1.out; omega⟩, ⟨by (with_reducible repeat (first | refine blk_drewN ?_ _ | refine blk_drew ?_ | refine blk_alloc ?_ _)); exact BK170.out⟩, ⟨by (with_reducible repeat (first | refine blk_drewN ?_ _ | refine blk_drew ?_ | refine blk_alloc ?_ _)); exact BK171.out⟩, ⟨by repeat (with_reducible first | exact HB.out | apply pw_below_drewN | apply below_drew1 | refine below_set ?_ (Aside0.out (by assumption)))⟩⟩
        · rw [if_neg c6] at H
          exact absurd H (by simp)
      · rw [if_neg c5] at H
        have c5b0 : decide (x6_1 < (l0_1.length : Int)) = false := decide_eq_false c5
        clear c5
        simp only [Option.some.injEq, Prod.mk.injEq] at H
        obtain ⟨rfl, rfl, rfl, rfl, rfl⟩ := H
        have hnb13 := NB170_171.out
        have hnc13 := NB171_170.out
        have hcz14_0 : wr.cell? ⟨gb170, 0, none⟩ = some (.int .i64 a0_0) := (blk_cell BK170.out 0).trans rfl
        have hcz14_1 : wr.cell? ⟨gb170, 1, none⟩ = some (.slice A0_1 l0_1.length c0_1) := (blk_cell BK170.out 1).trans rfl
        have hfz14_0 := blk_frozen BK170.out 0
        have hfz14_1 := blk_frozen BK170.out 1
        have hcz15_0 : wr.cell? ⟨gb171, 0, none⟩ = some (.int .i64 x172000_1) := (blk_cell BK171.out 0).trans rfl
        have hcz15_1 : wr.cell? ⟨gb171, 1, none⟩ = some (.int .i64 x172001_1) := (blk_cell BK171.out 1).trans rfl
        have hcz15_2 : wr.cell? ⟨gb171, 2, none⟩ = some (.int .i64 x172002_1) := (blk_cell BK171.out 2).trans rfl
        have hcz15_3 : wr.cell? ⟨gb171, 3, none⟩ = some (.string x172003_1) := (blk_cell BK171.out 3).trans rfl
        have hfz15_0 := blk_frozen BK171.out 0
        have hfz15_1 := blk_frozen BK171.out 1
        have hfz15_2 := blk_frozen BK171.out 2
        have hfz15_3 := blk_frozen BK171.out 3
        go_wp2
        refine bodyPost_ret (results_ct rfl _ _ gb171 35 #[.int .i64 0, .int .i64 0, .int .i64 0, .string (⟨#[]⟩ : ByteArray)] (0, 0) _ rfl (by refine blk_put (cs := #[.int .i64 0, .int .i64 0, .int .i64 0, .string x172003_1]) ?_ 3 _ rfl; refine blk_put (cs := #[.int .i64 0, .int .i64 0, .int .i64 x172002_1, .string x172003_1]) ?_ 2 _ rfl; refine blk_put (cs := #[.int .i64 0, .int .i64 x172001_1, .int .i64 x172002_1, .string x172003_1]) ?_ 1 _ rfl; refine blk_put (cs := #[.int .i64 x172000_1, .int .i64 x172001_1, .int .i64 x172002_1, .string x172003_1]) ?_ 0 _ rfl; exact BK171.out) Try.underlying35 rfl (by kernel_rfl)) rfl ?_
        exact ⟨by first | rfl | (simp [errW_none, errW_some] <;> rfl) | (simp [*, errW_none, errW_some] <;> rfl), by repeat (with_reducible first | exact HB.out | apply pw_below_drewN | apply below_drew1 | refine below_set ?_ (Aside0.out (by assumption)))⟩

/-! ### watchmanref21_Take: function 14 -/
def watchmanref21_Take.f (k : Nat) (a0_0 : Int) (l0_1 : List (S35)) (a1 : Int) : Option (Int × (List (S35)) × Int × Int × Int × ByteArray × Int) := (watchmanref21_Is.f k a0_0 l0_1).bind fun t177 => (if t177 = true then ((watchmanref21_find.f k a0_0 l0_1 a1).bind fun bt178 => (if bt178.2.2.2.2 = true then ((watchmanref21_without.f k l0_1 a1).bind fun t184 => (some (a0_0, t184, bt178.1, bt178.2.1, bt178.2.2.1, bt178.2.2.2.1, 0))) else (some (0, ([] : List (S35)), 0, 0, 0, (⟨#[]⟩ : ByteArray), 80)))) else (some (0, ([] : List (S35)), 0, 0, 0, (⟨#[]⟩ : ByteArray), 1)))
theorem watchmanref21_Take.mono : ∀ a0 a1 a2 k, LeO (watchmanref21_Take.f k a0 a1 a2) (watchmanref21_Take.f (k + 1) a0 a1 a2) := by
  intro a0 a1 a2 k
  unfold watchmanref21_Take.f
  repeat' first
      | (with_reducible exact watchmanref21_Is.mono _ _ _)
      | (with_reducible exact watchmanref21_find.mono _ _ _ _)
      | (with_reducible exact watchmanref21_without.mono _ _ _)
      | (with_reducible exact LeO.refl _)
      | (with_reducible exact LeO.none _)
      | (with_reducible refine LeO.ite ?_ ?_)
      | (with_reducible refine LeO.bind ?_ (fun _ => ?_))
      | exact watchmanref21_Is.mono _ _ _
      | exact watchmanref21_find.mono _ _ _ _
      | exact watchmanref21_without.mono _ _ _
      | exact LeO.none _
      | refine LeO.ite ?_ ?_
      | refine LeO.bind ?_ (fun _ => ?_)
def watchmanref21_Take.T6 : Bool × List (List Nat × List Nat) := (true, [([], []), ([0], [0]), ([], []), ([2], [2]), ([], []), ([3, 4], [3, 4]), ([1, 5], [1, 5]), ([], []), ([6, 5, 0, 1, 2, 3, 4, 5, 6], [6]), ([7, 8, 0, 1, 2, 3, 4, 5, 6, 7, 8], [7]), ([9, 0, 1, 2, 3, 4, 5, 6, 7, 8, 9], [])])
def watchmanref21_Take.B6 : List Nat := [0, 1, 0, 4, 0, 28, 63, 0, 127, 511, 1023]
theorem watchmanref21_Take.tab6 : rtab .any (opsOf Try.f14 6) = watchmanref21_Take.T6 := by kernel_rfl
theorem watchmanref21_Take.bits6 : waitsOk watchmanref21_Take.T6.2 watchmanref21_Take.B6 = true := by kernel_rfl
set_option maxHeartbeats 8000000 in
set_option maxRecDepth 100000 in
theorem watchmanref21_Take.calls (k : Nat) (a0_0 : Int) (A0_1 : Option Addr) (c0_1 : Nat) (l0_1 : List (S35)) (a1 : Int) (r1 : Int) (r2 : List (S35)) (r3 : Int) (r4 : Int) (r5 : Int) (r6 : ByteArray) (r7 : Int) (w : World) (hr0_1 : Kd.C k35 w A0_1 l0_1.length l0_1) (hc0_1 : l0_1.length ≤ c0_1) (h : watchmanref21_Take.f k a0_0 l0_1 a1 = some (r1, r2, r3, r4, r5, r6, r7)) :
    Calls Try.prog 14 #[.agg #[.int .i64 a0_0, .slice A0_1 l0_1.length c0_1], .int .i64 a1] w fun e w' => ∃ v1_ : Value, e = .returned (.tuple #[.agg #[.int .i64 r1, v1_], .agg #[.int .i64 r3, .int .i64 r4, .int .i64 r5, .string r6], .int .i64 r7]) ∧ Kd.R k35 35 w' w.heap.size (fun _ => True) v1_ r2 ∧ Below w.heap.size w w' := by
  have hu24 := Try.underlying24
  have hu35 := Try.underlying35
  have HR0_1 := Aside0.mk hr0_1
  have HC0_1 := Aside0.mk hc0_1
  clear hr0_1 hc0_1
  have HB := Aside0.mk (Below.refl w.heap.size w)
  have H : ((watchmanref21_Is.f k a0_0 l0_1).bind fun t177 => (if t177 = true then ((watchmanref21_find.f k a0_0 l0_1 a1).bind fun bt178 => (if bt178.2.2.2.2 = true then ((watchmanref21_without.f k l0_1 a1).bind fun t184 => (some (a0_0, t184, bt178.1, bt178.2.1, bt178.2.2.1, bt178.2.2.2.1, 0))) else (some (0, ([] : List (S35)), 0, 0, 0, (⟨#[]⟩ : ByteArray), 80)))) else (some (0, ([] : List (S35)), 0, 0, 0, (⟨#[]⟩ : ByteArray), 1)))) = some (r1, r2, r3, r4, r5, r6, r7) := h
  clear h
  replace H := Option.bind_eq_some_iff.mp H
  obtain ⟨t177, A30, H⟩ := H
  replace H : (if t177 = true then ((watchmanref21_find.f k a0_0 l0_1 a1).bind fun bt178 => (if bt178.2.2.2.2 = true then ((watchmanref21_without.f k l0_1 a1).bind fun t184 => (some (a0_0, t184, bt178.1, bt178.2.1, bt178.2.2.1, bt178.2.2.2.1, 0))) else (some (0, ([] : List (S35)), 0, 0, 0, (⟨#[]⟩ : ByteArray), 80)))) else (some (0, ([] : List (S35)), 0, 0, 0, (⟨#[]⟩ : ByteArray), 1))) = some (r1, r2, r3, r4, r5, r6, r7) := H
  have A3 := Aside0.mk A30
  clear A30
  by_cases c4 : t177 = true
  · subst c4
    have H1 : ((watchmanref21_find.f k a0_0 l0_1 a1).bind fun bt178 => (if bt178.2.2.2.2 = true then ((watchmanref21_without.f k l0_1 a1).bind fun t184 => (some (a0_0, t184, bt178.1, bt178.2.1, bt178.2.2.1, bt178.2.2.2.1, 0))) else (some (0, ([] : List (S35)), 0, 0, 0, (⟨#[]⟩ : ByteArray), 80)))) = some (r1, r2, r3, r4, r5, r6, r7) := by rw [if_pos rfl] at H; exact H
    clear H
    have H := H1
    clear H1
    replace H := Option.bind_eq_some_iff.mp H
    obtain ⟨⟨t178, t179, t180, t181, t182⟩, A50, H⟩ := H
    replace H : (if t182 = true then ((watchmanref21_without.f k l0_1 a1).bind fun t184 => (some (a0_0, t184, t178, t179, t180, t181, 0))) else (some (0, ([] : List (S35)), 0, 0, 0, (⟨#[]⟩ : ByteArray), 80))) = some (r1, r2, r3, r4, r5, r6, r7) := H
    have A5 := Aside0.mk A50
    clear A50
    by_cases c6 : t182 = true
    · subst c6
      have H1 : ((watchmanref21_without.f k l0_1 a1).bind fun t184 => (some (a0_0, t184, t178, t179, t180, t181, 0))) = some (r1, r2, r3, r4, r5, r6, r7) := by rw [if_pos rfl] at H; exact H
      clear H
      have H := H1
      clear H1
      replace H := Option.bind_eq_some_iff.mp H
      obtain ⟨t184, A70, H⟩ := H
      replace H : (some (a0_0, t184, t178, t179, t180, t181, 0)) = some (r1, r2, r3, r4, r5, r6, r7) := H
      have A7 := Aside0.mk A70
      clear A70
      simp only [Option.some.injEq, Prod.mk.injEq] at H
      obtain ⟨rfl, rfl, rfl, rfl, rfl, rfl, rfl⟩ := H
      go_enter Try.func14, Try.ntmps14
      try go_wp2_with (first | ((with_reducible refine gate_dst (N := 2) rfl ?_); refine box_event ?hg (N := 2) ?hd (cs := #[.int .i64 a0_0, .slice A0_1 l0_1.length c0_1]) (t := 24) ?hr ?_; (case hd => rfl); (case hg => rfl); (case hr => first | (go_simp; done) | (go_simp; rfl)); intro gb174 hg w8 hbox hb; have BK174 := Aside0.mk (hbox); have GW174 := Aside0.mk ((by rw [hg]; exact (below_size HB.out) : w.heap.size ≤ gb174)); have GE174 := Aside0.mk ((by rw [hg]; exact (below_size HB.out) : w.heap.size ≤ gb174)); replace HB := Aside0.mk (below_step HB.out hb); clear hb hbox hg) | ((with_reducible refine gate_dst (N := 4) rfl ?_); refine box_event ?hg (N := 4) ?hd (cs := #[.int .i64 0, .slice none 0 0]) (t := 24) ?hr ?_; (case hd => rfl); (case hg => rfl); (case hr => first | (go_simp; done) | (go_simp; rfl)); intro gb175 hg w9 hbox hb; have BK175 := Aside0.mk (hbox); have GW175 := Aside0.mk ((by rw [hg]; exact (below_size (by repeat (with_reducible first | exact HB.out | apply pw_below_drewN | apply below_drew1 | refine below_set ?_ GE174.out))) : w.heap.size ≤ gb175)); have GE175 := Aside0.mk ((by rw [hg]; exact (below_size (by repeat (with_reducible first | exact HB.out | apply pw_below_drewN | apply below_drew1 | refine below_set ?_ GE174.out))) : w.heap.size ≤ gb175)); replace HB := Aside0.mk (below_step (by repeat (with_reducible first | exact HB.out | apply pw_below_drewN | apply below_drew1 | refine below_set ?_ GE174.out)) hb); have NB174_175 := Aside0.mk ((by rw [hg]; exact Nat.ne_of_lt (blk_lt BK174.out) : gb174 ≠ gb175)); have NB175_174 := Aside0.mk ((by rw [hg]; exact Nat.ne_of_gt (blk_lt BK174.out) : gb175 ≠ gb174)); replace BK174 := bl_ BK174 hb; clear hb hbox hg) | ((with_reducible refine gate_dst (N := 5) rfl ?_); refine box_event ?hg (N := 5) ?hd (cs := #[.int .i64 0, .int .i64 0, .int .i64 0, .string (⟨#[]⟩ : ByteArray)]) (t := 35) ?hr ?_; (case hd => rfl); (case hg => rfl); (case hr => first | (go_simp; done) | (go_simp; rfl)); intro gb176 hg w10 hbox hb; have BK176 := Aside0.mk (hbox); have GW176 := Aside0.mk ((by rw [hg]; exact (below_size (by repeat (with_reducible first | exact HB.out | apply pw_below_drewN | apply below_drew1 | refine below_set ?_ (Aside0.out (by assumption))))) : w.heap.size ≤ gb176)); have GE176 := Aside0.mk ((by rw [hg]; exact (below_size (by repeat (with_reducible first | exact HB.out | apply pw_below_drewN | apply below_drew1 | refine below_set ?_ (Aside0.out (by assumption))))) : w.heap.size ≤ gb176)); replace HB := Aside0.mk (below_step (by repeat (with_reducible first | exact HB.out | apply pw_below_drewN | apply below_drew1 | refine below_set ?_ (Aside0.out (by assumption)))) hb); have NB174_176 := Aside0.mk ((by rw [hg]; exact Nat.ne_of_lt (blk_lt BK174.out) : gb174 ≠ gb176)); have NB176_174 := Aside0.mk ((by rw [hg]; exact Nat.ne_of_gt (blk_lt BK174.out) : gb176 ≠ gb174)); replace BK174 := bl_ BK174 hb; have NB175_176 := Aside0.mk ((by rw [hg]; exact Nat.ne_of_lt (blk_lt BK175.out) : gb175 ≠ gb176)); have NB176_175 := Aside0.mk ((by rw [hg]; exact Nat.ne_of_gt (blk_lt BK175.out) : gb176 ≠ gb175)); replace BK175 := bl_ BK175 hb; clear hb hbox hg; have hnb11 := NB174_175.out; have hnc11 := NB175_174.out; have hnb12 := NB174_176.out; have hnc12 := NB176_174.out; have hcz13_0 : w10.cell? ⟨gb174, 0, none⟩ = some (.int .i64 a0_0) := (blk_cell BK174.out 0).trans rfl; have hcz13_1 : w10.cell? ⟨gb174, 1, none⟩ = some (.slice A0_1 l0_1.length c0_1) := (blk_cell BK174.out 1).trans rfl; have hfz13_0 := blk_frozen BK174.out 0; have hfz13_1 := blk_frozen BK174.out 1) | ((with_reducible refine gate_callee (f := 26) rfl ?_); refine goesL_ (some 10) rfl rfl Try.func26 (by kernel_rfl) rfl #[.agg #[.int .i64 a0_0, .slice A0_1 l0_1.length c0_1]] rfl (by (try simp only [List.map_toArray, List.map_cons, List.map_nil]); first | done | rfl | (simp only [List.length_drop, List.length_take]; rfl)) ?_; (with_reducible refine (watchmanref21_Is.calls k a0_0 _ _ l0_1 true _ ?side1 ?side2 A3.out).mono ?_); (case side1 => exact (Kd.C_below HR0_1.out HB.out)); (case side2 => exact HC0_1.out); rintro e w14 ⟨rfl, hb⟩; refine ⟨_, rfl, ?_⟩; replace BK174 := bl_ BK174 hb; replace BK175 := bl_ BK175 hb; replace BK176 := Aside0.mk (blk_below (g := gb176) (o := .cells #[.int .i64 0, .int .i64 0, .int .i64 0, .string (⟨#[]⟩ : ByteArray)] 35 (0, 0)) BK176.out hb); replace HB := Aside0.mk (below_step (by repeat (with_reducible first | exact HB.out | apply pw_below_drewN | apply below_drew1 | refine below_set ?_ (Aside0.out (by assumption)))) hb); (try clear hb); (try clear hb2); (try clear hk); (try clear hi); have hcz15_0 : w14.cell? ⟨gb174, 0, none⟩ = some (.int .i64 a0_0) := (blk_cell BK174.out 0).trans rfl; have hcz15_1 : w14.cell? ⟨gb174, 1, none⟩ = some (.slice A0_1 l0_1.length c0_1) := (blk_cell BK174.out 1).trans rfl; have hfz15_0 := blk_frozen BK174.out 0; have hfz15_1 := blk_frozen BK174.out 1) | ((with_reducible refine gate_callee (f := 36) rfl ?_); refine goesL_ (some 17) rfl rfl Try.func36 (by kernel_rfl) rfl #[.agg #[.int .i64 a0_0, .slice A0_1 l0_1.length c0_1], .int .i64 a1] rfl (by (try simp only [List.map_toArray, List.map_cons, List.map_nil]); first | done | rfl | (simp only [List.length_drop, List.length_take]; rfl)) ?_; (with_reducible refine (watchmanref21_find.calls k a0_0 _ _ l0_1 a1 t178 t179 t180 t181 true _ ?side1 ?side2 A5.out).mono ?_); (case side1 => exact (Kd.C_below HR0_1.out HB.out)); (case side2 => exact HC0_1.out); rintro e w16 ⟨rfl, hb⟩; refine ⟨_, rfl, ?_⟩; replace BK174 := bl_ BK174 hb; replace BK175 := bl_ BK175 hb; replace BK176 := Aside0.mk (blk_below (g := gb176) (o := .cells #[.int .i64 0, .int .i64 0, .int .i64 0, .string (⟨#[]⟩ : ByteArray)] 35 (0, 0)) BK176.out hb); replace HB := Aside0.mk (below_step (by repeat (with_reducible first | exact HB.out | apply pw_below_drewN | apply below_drew1 | refine below_set ?_ (Aside0.out (by assumption)))) hb); (try clear hb); (try clear hb2); (try clear hk); (try clear hi)) | ((with_reducible refine gate_dst (N := 7) rfl ?_); refine box_event ?hg (N := 7) ?hd (cs := #[.int .i64 0, .int .i64 0, .int .i64 0, .string (⟨#[]⟩ : ByteArray)]) (t := 35) ?hr ?_; (case hd => rfl); (case hg => rfl); (case hr => first | (go_simp; done) | (go_simp; rfl)); intro gb183 hg w17 hbox hb; have BK183 := Aside0.mk (hbox); have GW183 := Aside0.mk ((by rw [hg]; exact (below_size (by repeat (with_reducible first | exact HB.out | apply pw_below_drewN | apply below_drew1 | refine below_set ?_ (Aside0.out (by assumption))))) : w.heap.size ≤ gb183)); have GE183 := Aside0.mk ((by rw [hg]; exact (below_size (by repeat (with_reducible first | exact HB.out | apply pw_below_drewN | apply below_drew1 | refine below_set ?_ (Aside0.out (by assumption))))) : w.heap.size ≤ gb183)); replace HB := Aside0.mk (below_step (by repeat (with_reducible first | exact HB.out | apply pw_below_drewN | apply below_drew1 | refine below_set ?_ (Aside0.out (by assumption)))) hb); have NB174_183 := Aside0.mk ((by rw [hg]; exact Nat.ne_of_lt (blk_lt BK174.out) : gb174 ≠ gb183)); have NB183_174 := Aside0.mk ((by rw [hg]; exact Nat.ne_of_gt (blk_lt BK174.out) : gb183 ≠ gb174)); replace BK174 := bl_ BK174 hb; have NB175_183 := Aside0.mk ((by rw [hg]; exact Nat.ne_of_lt (blk_lt BK175.out) : gb175 ≠ gb183)); have NB183_175 := Aside0.mk ((by rw [hg]; exact Nat.ne_of_gt (blk_lt BK175.out) : gb183 ≠ gb175)); replace BK175 := bl_ BK175 hb; have NB176_183 := Aside0.mk ((by rw [hg]; exact Nat.ne_of_lt (blk_lt (g := gb176) (o := .cells #[.int .i64 0, .int .i64 0, .int .i64 0, .string (⟨#[]⟩ : ByteArray)] 35 (0, 0)) BK176.out) : gb176 ≠ gb183)); have NB183_176 := Aside0.mk ((by rw [hg]; exact Nat.ne_of_gt (blk_lt (g := gb176) (o := .cells #[.int .i64 0, .int .i64 0, .int .i64 0, .string (⟨#[]⟩ : ByteArray)] 35 (0, 0)) BK176.out) : gb183 ≠ gb176)); replace BK176 := Aside0.mk (blk_below (g := gb176) (o := .cells #[.int .i64 0, .int .i64 0, .int .i64 0, .string (⟨#[]⟩ : ByteArray)] 35 (0, 0)) BK176.out hb); clear hb hbox hg; have hnb18 := NB183_174.out; have hnc18 := NB174_183.out; have hnb19 := NB183_175.out; have hnc19 := NB175_183.out; have hnb20 := NB183_176.out; have hnc20 := NB176_183.out; have hcz21_0 : w17.cell? ⟨gb183, 0, none⟩ = some (.int .i64 0) := (blk_cell BK183.out 0).trans rfl; have hcz21_1 : w17.cell? ⟨gb183, 1, none⟩ = some (.int .i64 0) := (blk_cell BK183.out 1).trans rfl; have hcz21_2 : w17.cell? ⟨gb183, 2, none⟩ = some (.int .i64 0) := (blk_cell BK183.out 2).trans rfl; have hcz21_3 : w17.cell? ⟨gb183, 3, none⟩ = some (.string (⟨#[]⟩ : ByteArray)) := (blk_cell BK183.out 3).trans rfl; have hfz21_0 := blk_frozen BK183.out 0; have hfz21_1 := blk_frozen BK183.out 1; have hfz21_2 := blk_frozen BK183.out 2; have hfz21_3 := blk_frozen BK183.out 3))
      have n0_ : Aside0 (((((w17.setCell ⟨gb183, 0, none⟩ (.int .i64 t178)).setCell ⟨gb183, 1, none⟩ (.int .i64 t179)).setCell ⟨gb183, 2, none⟩ (.int .i64 t180)).setCell ⟨gb183, 3, none⟩ (.string t181)).heap[gb174]? = some (.cells #[.int .i64 a0_0, .slice A0_1 l0_1.length c0_1] 24 (0, 0))) := ⟨by refine blk_far ?_ NB174_183.out _; refine blk_far ?_ NB174_183.out _; refine blk_far ?_ NB174_183.out _; refine blk_far ?_ NB174_183.out _; exact BK174.out⟩
      have n1_ : Aside0 (((((w17.setCell ⟨gb183, 0, none⟩ (.int .i64 t178)).setCell ⟨gb183, 1, none⟩ (.int .i64 t179)).setCell ⟨gb183, 2, none⟩ (.int .i64 t180)).setCell ⟨gb183, 3, none⟩ (.string t181)).heap[gb175]? = some (.cells #[.int .i64 0, .slice none 0 0] 24 (0, 0))) := ⟨by refine blk_far ?_ NB175_183.out _; refine blk_far ?_ NB175_183.out _; refine blk_far ?_ NB175_183.out _; refine blk_far ?_ NB175_183.out _; exact BK175.out⟩
      have n2_ : Aside0 (((((w17.setCell ⟨gb183, 0, none⟩ (.int .i64 t178)).setCell ⟨gb183, 1, none⟩ (.int .i64 t179)).setCell ⟨gb183, 2, none⟩ (.int .i64 t180)).setCell ⟨gb183, 3, none⟩ (.string t181)).heap[gb176]? = some (.cells #[.int .i64 0, .int .i64 0, .int .i64 0, .string (⟨#[]⟩ : ByteArray)] 35 (0, 0))) := ⟨by refine blk_far ?_ NB176_183.out _; refine blk_far ?_ NB176_183.out _; refine blk_far ?_ NB176_183.out _; refine blk_far ?_ NB176_183.out _; exact BK176.out⟩
      have n3_ : Aside0 (((((w17.setCell ⟨gb183, 0, none⟩ (.int .i64 t178)).setCell ⟨gb183, 1, none⟩ (.int .i64 t179)).setCell ⟨gb183, 2, none⟩ (.int .i64 t180)).setCell ⟨gb183, 3, none⟩ (.string t181)).heap[gb183]? = some (.cells #[.int .i64 t178, .int .i64 t179, .int .i64 t180, .string t181] 35 (0, 0))) := ⟨by refine blk_put (cs := #[.int .i64 t178, .int .i64 t179, .int .i64 t180, .string (⟨#[]⟩ : ByteArray)]) ?_ 3 _ rfl; refine blk_put (cs := #[.int .i64 t178, .int .i64 t179, .int .i64 0, .string (⟨#[]⟩ : ByteArray)]) ?_ 2 _ rfl; refine blk_put (cs := #[.int .i64 t178, .int .i64 0, .int .i64 0, .string (⟨#[]⟩ : ByteArray)]) ?_ 1 _ rfl; refine blk_put (cs := #[.int .i64 0, .int .i64 0, .int .i64 0, .string (⟨#[]⟩ : ByteArray)]) ?_ 0 _ rfl; exact BK183.out⟩
      have n4_ : Aside0 (Below w.heap.size w ((((w17.setCell ⟨gb183, 0, none⟩ (.int .i64 t178)).setCell ⟨gb183, 1, none⟩ (.int .i64 t179)).setCell ⟨gb183, 2, none⟩ (.int .i64 t180)).setCell ⟨gb183, 3, none⟩ (.string t181))) := ⟨by repeat (with_reducible first | exact HB.out | apply pw_below_drewN | apply below_drew1 | refine below_set ?_ (Aside0.out (by assumption)))⟩
      (try clear BK174)
      (try clear BK175)
      (try clear BK176)
      (try clear BK183)
      (try clear HB)
      generalize ((((w17.setCell ⟨gb183, 0, none⟩ (.int .i64 t178)).setCell ⟨gb183, 1, none⟩ (.int .i64 t179)).setCell ⟨gb183, 2, none⟩ (.int .i64 t180)).setCell ⟨gb183, 3, none⟩ (.string t181)) = w22 at n0_ n1_ n2_ n3_ n4_ ⊢
      have BK174 := n0_
      have BK175 := n1_
      have BK176 := n2_
      have BK183 := n3_
      have HB := n4_
      clear n0_ n1_ n2_ n3_ n4_
      replace BK174 := Aside0.mk (blk_drew BK174.out)
      replace BK175 := Aside0.mk (blk_drew BK175.out)
      replace BK176 := Aside0.mk (blk_drew BK176.out)
      replace BK183 := Aside0.mk (blk_drew BK183.out)
      replace HB := Aside0.mk (below_drew1 HB.out)
      refine start_ (n := 11) (S := fun w' => w'.cell? ⟨gb174, 0, none⟩ = some (.int .i64 a0_0) ∧ w'.cell? ⟨gb174, 1, none⟩ = some (.slice A0_1 l0_1.length c0_1) ∧ w'.cell? ⟨gb183, 0, none⟩ = some (.int .i64 t178) ∧ w'.cell? ⟨gb183, 1, none⟩ = some (.int .i64 t179) ∧ w'.cell? ⟨gb183, 2, none⟩ = some (.int .i64 t180) ∧ w'.cell? ⟨gb183, 3, none⟩ = some (.string t181)) (ds := []) #[false, false, false, false, false, false, false, false, false, false, false] (by kernel_rfl) rfl rfl ⟨(blk_cell BK174.out 0).trans rfl, (blk_cell BK174.out 1).trans rfl, (blk_cell BK183.out 0).trans rfl, (blk_cell BK183.out 1).trans rfl, (blk_cell BK183.out 2).trans rfl, (blk_cell BK183.out 3).trans rfl⟩ (fun hHeld => ?_); refine with_tabW watchmanref21_Take.tab6 watchmanref21_Take.bits6 (fun HT_ HW_ => ?_)
      generalize w22.drew = w23 at BK174 BK175 BK176 BK183 HB hHeld ⊢
      refine pure_ (i := 0) (N := some 24) (v := ?_) (a' := ?_) (dn_ 1 11) rfl rfl (any_of HT_.out (by kernel_rfl)) (fun _ _ _ h => h) (Or.inl ⟨by rfl, ?_⟩) ?_ ?_
      rotate_left
      · intro w'
        go_simp
        with_reducible rfl
      rotate_left; (simp only [Act.put, List.setIfInBounds_toArray, List.set_cons_zero, List.set_cons_succ, i64_w, i32_w]; rfl)
      refine pure_ (i := 2) (N := some 26) (v := ?_) (a' := ?_) #[true, false, true, false, false, false, false, false, false, false, false] rfl rfl (any_of HT_.out (by kernel_rfl)) (fun _ _ _ h => h) (Or.inl ⟨by rfl, ?_⟩) ?_ ?_
      rotate_left
      · intro w'
        go_simp
        with_reducible rfl
      rotate_left; (simp only [Act.put, List.setIfInBounds_toArray, List.set_cons_zero, List.set_cons_succ, i64_w, i32_w]; rfl)
      refine pure_ (i := 4) (N := some 28) (v := ?_) (a' := ?_) #[true, false, true, false, true, false, false, false, false, false, false] rfl rfl (any_of HT_.out (by kernel_rfl)) (fun _ _ _ h => h) (Or.inl ⟨by rfl, ?_⟩) ?_ ?_
      rotate_left
      · intro w'
        go_simp
        with_reducible rfl
      rotate_left; (simp only [Act.put, List.setIfInBounds_toArray, List.set_cons_zero, List.set_cons_succ, i64_w, i32_w]; rfl)
      refine take_ (i := 1) (N := some 25) (v := ?_) (a' := ?_) #[true, true, true, false, true, false, false, false, false, false, false] rfl rfl (take_ofW HT_.out HW_.out (by kernel_rfl)) (fun _ _ _ h => h) (Or.inl ⟨by rfl, ?_⟩) hHeld ?_ ?_
      rotate_left
      · rintro w' ⟨s0, s1, s2, s3, s4, s5⟩
        go_simp
        with_reducible rfl
      rotate_left; (simp only [Act.put, List.setIfInBounds_toArray, List.set_cons_zero, List.set_cons_succ, i64_w, i32_w]; rfl)
      refine take_ (i := 3) (N := some 27) (v := ?_) (a' := ?_) (dn_ 5 11) rfl rfl (take_ofW HT_.out HW_.out (by kernel_rfl)) (fun _ _ _ h => h) (Or.inl ⟨by rfl, ?_⟩) hHeld ?_ ?_
      rotate_left
      · rintro w' ⟨s0, s1, s2, s3, s4, s5⟩
        go_simp
        with_reducible rfl
      rotate_left; (simp only [Act.put, List.setIfInBounds_toArray, List.set_cons_zero, List.set_cons_succ, i64_w, i32_w]; rfl)
      refine take_ (i := 7) (N := some 31) (v := ?_) (a' := ?_) #[true, true, true, true, true, false, false, true, false, false, false] rfl rfl (take_ofW HT_.out HW_.out (by kernel_rfl)) (fun _ _ _ h => h) (Or.inl ⟨by rfl, ?_⟩) hHeld ?_ ?_
      rotate_left
      · rintro w' ⟨s0, s1, s2, s3, s4, s5⟩
        go_simp
        with_reducible rfl
      rotate_left; (simp only [Act.put, List.setIfInBounds_toArray, List.set_cons_zero, List.set_cons_succ, i64_w, i32_w]; rfl)
      refine one_ (i := 5) (N := some 29) #[true, true, true, true, true, true, false, true, false, false, false] rfl rfl (one_of HT_.out (by kernel_rfl)) (by decide) (fun K hK => ?_)
      refine goes_ Try.func33 (by kernel_rfl) rfl #[.slice A0_1 l0_1.length c0_1, .int .i64 a1] (by rfl) rfl rfl (by (try simp only [List.map_toArray, List.map_cons, List.map_nil]); first | done | rfl | (simp only [List.length_drop, List.length_take]; rfl)) ?_
      with_reducible refine (watchmanref21_without.calls k _ _ l0_1 a1 t184 _ ?side1 ?side2 A7.out).mono ?_
      (case side1 => exact (Kd.C_below HR0_1.out HB.out))
      (case side2 => exact HC0_1.out)
      rintro e w24 ⟨v185, rfl, ho0, hb⟩
      refine ⟨_, rfl, ?_⟩
      have HO186 := Aside0.mk (Kd.R_lower (Kd.R_newB (Kd.R_newB ho0 (g := gb176) (o := .cells #[.int .i64 0, .int .i64 0, .int .i64 0, .string (⟨#[]⟩ : ByteArray)] 35 (0, 0)) BK176.out) (g := gb183) (o := .cells #[.int .i64 t178, .int .i64 t179, .int .i64 t180, .string t181] 35 (0, 0)) BK183.out) (below_size (by repeat (with_reducible first | exact HB.out | apply pw_below_drewN | apply below_drew1 | refine below_set ?_ (Aside0.out (by assumption))))))
      replace BK174 := bl_ BK174 hb
      replace BK175 := bl_ BK175 hb
      replace BK176 := Aside0.mk (blk_below (g := gb176) (o := .cells #[.int .i64 0, .int .i64 0, .int .i64 0, .string (⟨#[]⟩ : ByteArray)] 35 (0, 0)) BK176.out hb)
      replace BK183 := bl_ BK183 hb
      replace HB := Aside0.mk (below_step (by repeat (with_reducible first | exact HB.out | apply pw_below_drewN | apply below_drew1 | refine below_set ?_ (Aside0.out (by assumption)))) hb)
      (try clear hb)
      (try clear hb2)
      (try clear hk)
      (try clear hi)
      (try clear ho0)
      obtain ⟨Ao25, co25, eo25⟩ := Kd.R_slice HO186.out
      (first | subst eo25 | (injection eo25 with f1_ f2_ f3_; have f4_ := f1_.symm; have f5_ := f3_.symm; clear f1_ f2_ f3_; subst f4_; subst f5_))
      refine hK.out _ _ ⟨(blk_cell BK174.out 0).trans rfl, (blk_cell BK174.out 1).trans rfl, (blk_cell BK183.out 0).trans rfl, (blk_cell BK183.out 1).trans rfl, (blk_cell BK183.out 2).trans rfl, (blk_cell BK183.out 3).trans rfl⟩ (fun hHeld => ?_)
      clear hK K
      refine norm_ (a' := ?_) ?_ ?_
      rotate_left
      · show Act.put _ (some 29) _ = _
        simp only [Act.put, List.setIfInBounds_toArray, List.set_cons_zero, List.set_cons_succ, i64_w, i32_w]
        rfl
      refine pure_ (i := 6) (N := some 30) (v := ?_) (a' := ?_) (dn_ 8 11) rfl rfl (any_of HT_.out (by kernel_rfl)) (fun _ _ _ h => h) (Or.inl ⟨by rfl, ?_⟩) ?_ ?_
      rotate_left
      · intro w'
        go_simp
        with_reducible rfl
      rotate_left; (simp only [Act.put, List.setIfInBounds_toArray, List.set_cons_zero, List.set_cons_succ, i64_w, i32_w]; rfl)
      refine one_ (i := 8) (N := none) (dn_ 9 11) rfl rfl (one_of HT_.out (by kernel_rfl)) (by decide) (fun K hK => ?_)
      have hs26 : w24.cell? ⟨gb175, 0, none⟩ = some (.int .i64 0) := (blk_cell BK175.out 0).trans rfl
      have hfs26 := blk_frozen BK175.out 0
      have hns26_0 := NB174_175.out
      have hns26_2 := NB176_175.out
      have hns26_3 := NB183_175.out
      have hms26_0 := NB175_174.out
      have hms26_2 := NB175_176.out
      have hms26_3 := NB175_183.out
      have hs27 : w24.cell? ⟨gb175, 1, none⟩ = some (.slice none 0 0) := (blk_cell BK175.out 1).trans rfl
      have hfs27 := blk_frozen BK175.out 1
      have hns27_0 := NB174_175.out
      have hns27_2 := NB176_175.out
      have hns27_3 := NB183_175.out
      have hms27_0 := NB175_174.out
      have hms27_2 := NB175_176.out
      have hms27_3 := NB175_183.out
      refine skip_ (w1 := ?_) (by rfl) rfl ?_ ?_
      rotate_left
      · go_simp
        rfl
      refine hK.out _ _ ⟨((cell_far (p := ⟨gb175, _, none⟩) NB174_175.out _).trans (((cell_far (p := ⟨gb175, _, none⟩) NB174_175.out _).trans (hHeld.1)))), ((cell_far (p := ⟨gb175, _, none⟩) NB174_175.out _).trans (((cell_far (p := ⟨gb175, _, none⟩) NB174_175.out _).trans (hHeld.2.1)))), ((cell_far (p := ⟨gb175, _, none⟩) NB183_175.out _).trans (((cell_far (p := ⟨gb175, _, none⟩) NB183_175.out _).trans (hHeld.2.2.1)))), ((cell_far (p := ⟨gb175, _, none⟩) NB183_175.out _).trans (((cell_far (p := ⟨gb175, _, none⟩) NB183_175.out _).trans (hHeld.2.2.2.1)))), ((cell_far (p := ⟨gb175, _, none⟩) NB183_175.out _).trans (((cell_far (p := ⟨gb175, _, none⟩) NB183_175.out _).trans (hHeld.2.2.2.2.1)))), ((cell_far (p := ⟨gb175, _, none⟩) NB183_175.out _).trans (((cell_far (p := ⟨gb175, _, none⟩) NB183_175.out _).trans (hHeld.2.2.2.2.2))))⟩ (fun hHeld => ?_)
      clear hK K
      refine one_ (i := 9) (N := none) (dn_ 10 11) rfl rfl (one_of HT_.out (by kernel_rfl)) (by decide) (fun K hK => ?_)
      have hs28 : w24.cell? ⟨gb176, 0, none⟩ = some (.int .i64 0) := (blk_cell BK176.out 0).trans rfl
      have hfs28 := blk_frozen BK176.out 0
      have hns28_0 := NB174_176.out
      have hns28_1 := NB175_176.out
      have hns28_3 := NB183_176.out
      have hms28_0 := NB176_174.out
      have hms28_1 := NB176_175.out
      have hms28_3 := NB176_183.out
      have hs29 : w24.cell? ⟨gb176, 1, none⟩ = some (.int .i64 0) := (blk_cell BK176.out 1).trans rfl
      have hfs29 := blk_frozen BK176.out 1
      have hns29_0 := NB174_176.out
      have hns29_1 := NB175_176.out
      have hns29_3 := NB183_176.out
      have hms29_0 := NB176_174.out
      have hms29_1 := NB176_175.out
      have hms29_3 := NB176_183.out
      have hs30 : w24.cell? ⟨gb176, 2, none⟩ = some (.int .i64 0) := (blk_cell BK176.out 2).trans rfl
      have hfs30 := blk_frozen BK176.out 2
      have hns30_0 := NB174_176.out
      have hns30_1 := NB175_176.out
      have hns30_3 := NB183_176.out
      have hms30_0 := NB176_174.out
      have hms30_1 := NB176_175.out
      have hms30_3 := NB176_183.out
      have hs31 : w24.cell? ⟨gb176, 3, none⟩ = some (.string (⟨#[]⟩ : ByteArray)) := (blk_cell BK176.out 3).trans rfl
      have hfs31 := blk_frozen BK176.out 3
      have hns31_0 := NB174_176.out
      have hns31_1 := NB175_176.out
      have hns31_3 := NB183_176.out
      have hms31_0 := NB176_174.out
      have hms31_1 := NB176_175.out
      have hms31_3 := NB176_183.out
      refine skip_ (w1 := ?_) (by rfl) rfl ?_ ?_
      rotate_left
      · go_simp
        rfl
      refine hK.out _ _ ⟨((cell_far (p := ⟨gb176, _, none⟩) NB174_176.out _).trans (((cell_far (p := ⟨gb176, _, none⟩) NB174_176.out _).trans (((cell_far (p := ⟨gb176, _, none⟩) NB174_176.out _).trans (((cell_far (p := ⟨gb176, _, none⟩) NB174_176.out _).trans (hHeld.1)))))))), ((cell_far (p := ⟨gb176, _, none⟩) NB174_176.out _).trans (((cell_far (p := ⟨gb176, _, none⟩) NB174_176.out _).trans (((cell_far (p := ⟨gb176, _, none⟩) NB174_176.out _).trans (((cell_far (p := ⟨gb176, _, none⟩) NB174_176.out _).trans (hHeld.2.1)))))))), ((cell_far (p := ⟨gb176, _, none⟩) NB183_176.out _).trans (((cell_far (p := ⟨gb176, _, none⟩) NB183_176.out _).trans (((cell_far (p := ⟨gb176, _, none⟩) NB183_176.out _).trans (((cell_far (p := ⟨gb176, _, none⟩) NB183_176.out _).trans (hHeld.2.2.1)))))))), ((cell_far (p := ⟨gb176, _, none⟩) NB183_176.out _).trans (((cell_far (p := ⟨gb176, _, none⟩) NB183_176.out _).trans (((cell_far (p := ⟨gb176, _, none⟩) NB183_176.out _).trans (((cell_far (p := ⟨gb176, _, none⟩) NB183_176.out _).trans (hHeld.2.2.2.1)))))))), ((cell_far (p := ⟨gb176, _, none⟩) NB183_176.out _).trans (((cell_far (p := ⟨gb176, _, none⟩) NB183_176.out _).trans (((cell_far (p := ⟨gb176, _, none⟩) NB183_176.out _).trans (((cell_far (p := ⟨gb176, _, none⟩) NB183_176.out _).trans (hHeld.2.2.2.2.1)))))))), ((cell_far (p := ⟨gb176, _, none⟩) NB183_176.out _).trans (((cell_far (p := ⟨gb176, _, none⟩) NB183_176.out _).trans (((cell_far (p := ⟨gb176, _, none⟩) NB183_176.out _).trans (((cell_far (p := ⟨gb176, _, none⟩) NB183_176.out _).trans (hHeld.2.2.2.2.2))))))))⟩ (fun hHeld => ?_)
      clear hK K
      refine pure_ (i := 10) (N := some 6) (v := ?_) (a' := ?_) #[true, true, true, true, true, true, true, true, true, true, true] rfl rfl (any_of HT_.out (by kernel_rfl)) (fun _ _ _ h => h) (Or.inl ⟨by rfl, ?_⟩) ?_ ?_
      rotate_left
      · intro w'
        go_simp
        with_reducible rfl
      rotate_left; (simp only [Act.put, List.setIfInBounds_toArray, List.set_cons_zero, List.set_cons_succ, i64_w, i32_w]; rfl)
      refine done_ (done_of HT_.out (by kernel_rfl)) ?_
      try go_wp2
      refine bodyPost_ret (results_list (rs := [.cell 4 24, .cell 5 35, .tmp 6]) rfl (by simp) (.cell gb175 24 #[.int .i64 a0_0, .slice Ao25 t184.length co25] (0, 0) _ rfl (by refine blk_far ?_ NB175_176.out _; refine blk_far ?_ NB175_176.out _; refine blk_far ?_ NB175_176.out _; refine blk_far ?_ NB175_176.out _; refine blk_put (cs := #[.int .i64 a0_0, .slice none 0 0]) ?_ 1 _ rfl; refine blk_put (cs := #[.int .i64 0, .slice none 0 0]) ?_ 0 _ rfl; exact BK175.out) Try.underlying24 rfl (by kernel_rfl) (.cell gb176 35 #[.int .i64 t178, .int .i64 t179, .int .i64 t180, .string t181] (0, 0) _ rfl (by refine blk_put (cs := #[.int .i64 t178, .int .i64 t179, .int .i64 t180, .string (⟨#[]⟩ : ByteArray)]) ?_ 3 _ rfl; refine blk_put (cs := #[.int .i64 t178, .int .i64 t179, .int .i64 0, .string (⟨#[]⟩ : ByteArray)]) ?_ 2 _ rfl; refine blk_put (cs := #[.int .i64 t178, .int .i64 0, .int .i64 0, .string (⟨#[]⟩ : ByteArray)]) ?_ 1 _ rfl; refine blk_put (cs := #[.int .i64 0, .int .i64 0, .int .i64 0, .string (⟨#[]⟩ : ByteArray)]) ?_ 0 _ rfl; refine blk_far ?_ NB176_175.out _; refine blk_far ?_ NB176_175.out _; exact BK176.out) Try.underlying35 rfl (by kernel_rfl) (.tmp .nil)))) rfl ?_
      exact ⟨_, by first | rfl | (simp [errW_none, errW_some] <;> rfl) | (simp [*, errW_none, errW_some] <;> rfl), by (with_reducible repeat (first | apply Kd.R_alloc | apply Kd.R_drewN | apply Kd.R_drew)); exact Kd.R_mono (rf4 (rf2 (Kd.R_mono (Kd.R_types HO186.out BK175.out (by decide)) (fun k_ hk => (⟨hk, hk.1.1.2⟩ : _ ∧ k_ ≠ gb176))) (fun _ hk => hk.1.2) (.int .i64 a0_0) (.slice Ao25 t184.length co25)) (fun _ hk => hk.2) (.int .i64 t178) (.int .i64 t179) (.int .i64 t180) (.string t181)) (fun _ hk => trivial), by repeat (with_reducible first | exact HB.out | apply pw_below_drewN | apply below_drew1 | refine below_set ?_ (Aside0.out (by assumption)))⟩
    · replace c6 := Bool.eq_false_iff.mpr c6
      subst c6
      have H1 : (some (0, ([] : List (S35)), 0, 0, 0, (⟨#[]⟩ : ByteArray), 80)) = some (r1, r2, r3, r4, r5, r6, r7) := by rw [if_neg (show ¬ (false = true) by decide)] at H; exact H
      clear H
      have H := H1
      clear H1
      simp only [Option.some.injEq, Prod.mk.injEq] at H
      obtain ⟨rfl, rfl, rfl, rfl, rfl, rfl, rfl⟩ := H
      go_enter Try.func14, Try.ntmps14
      go_wp2_with (first | ((with_reducible refine gate_dst (N := 2) rfl ?_); refine box_event ?hg (N := 2) ?hd (cs := #[.int .i64 a0_0, .slice A0_1 l0_1.length c0_1]) (t := 24) ?hr ?_; (case hd => rfl); (case hg => rfl); (case hr => first | (go_simp; done) | (go_simp; rfl)); intro gb174 hg w32 hbox hb; have BK174 := Aside0.mk (hbox); have GW174 := Aside0.mk ((by rw [hg]; exact (below_size HB.out) : w.heap.size ≤ gb174)); have GE174 := Aside0.mk ((by rw [hg]; exact (below_size HB.out) : w.heap.size ≤ gb174)); replace HB := Aside0.mk (below_step HB.out hb); clear hb hbox hg) | ((with_reducible refine gate_dst (N := 4) rfl ?_); refine box_event ?hg (N := 4) ?hd (cs := #[.int .i64 0, .slice none 0 0]) (t := 24) ?hr ?_; (case hd => rfl); (case hg => rfl); (case hr => first | (go_simp; done) | (go_simp; rfl)); intro gb175 hg w33 hbox hb; have BK175 := Aside0.mk (hbox); have GW175 := Aside0.mk ((by rw [hg]; exact (below_size (by repeat (with_reducible first | exact HB.out | apply pw_below_drewN | apply below_drew1 | refine below_set ?_ GE174.out))) : w.heap.size ≤ gb175)); have GE175 := Aside0.mk ((by rw [hg]; exact (below_size (by repeat (with_reducible first | exact HB.out | apply pw_below_drewN | apply below_drew1 | refine below_set ?_ GE174.out))) : w.heap.size ≤ gb175)); replace HB := Aside0.mk (below_step (by repeat (with_reducible first | exact HB.out | apply pw_below_drewN | apply below_drew1 | refine below_set ?_ GE174.out)) hb); have NB174_175 := Aside0.mk ((by rw [hg]; exact Nat.ne_of_lt (blk_lt BK174.out) : gb174 ≠ gb175)); have NB175_174 := Aside0.mk ((by rw [hg]; exact Nat.ne_of_gt (blk_lt BK174.out) : gb175 ≠ gb174)); replace BK174 := bl_ BK174 hb; clear hb hbox hg) | ((with_reducible refine gate_dst (N := 5) rfl ?_); refine box_event ?hg (N := 5) ?hd (cs := #[.int .i64 0, .int .i64 0, .int .i64 0, .string (⟨#[]⟩ : ByteArray)]) (t := 35) ?hr ?_; (case hd => rfl); (case hg => rfl); (case hr => first | (go_simp; done) | (go_simp; rfl)); intro gb176 hg w34 hbox hb; have BK176 := Aside0.mk (hbox); have GW176 := Aside0.mk ((by rw [hg]; exact (below_size (by repeat (with_reducible first | exact HB.out | apply pw_below_drewN | apply below_drew1 | refine below_set ?_ (Aside0.out (by assumption))))) : w.heap.size ≤ gb176)); have GE176 := Aside0.mk ((by rw [hg]; exact (below_size (by repeat (with_reducible first | exact HB.out | apply pw_below_drewN | apply below_drew1 | refine below_set ?_ (Aside0.out (by assumption))))) : w.heap.size ≤ gb176)); replace HB := Aside0.mk (below_step (by repeat (with_reducible first | exact HB.out | apply pw_below_drewN | apply below_drew1 | refine below_set ?_ (Aside0.out (by assumption)))) hb); have NB174_176 := Aside0.mk ((by rw [hg]; exact Nat.ne_of_lt (blk_lt BK174.out) : gb174 ≠ gb176)); have NB176_174 := Aside0.mk ((by rw [hg]; exact Nat.ne_of_gt (blk_lt BK174.out) : gb176 ≠ gb174)); replace BK174 := bl_ BK174 hb; have NB175_176 := Aside0.mk ((by rw [hg]; exact Nat.ne_of_lt (blk_lt BK175.out) : gb175 ≠ gb176)); have NB176_175 := Aside0.mk ((by rw [hg]; exact Nat.ne_of_gt (blk_lt BK175.out) : gb176 ≠ gb175)); replace BK175 := bl_ BK175 hb; clear hb hbox hg; have hnb35 := NB174_175.out; have hnc35 := NB175_174.out; have hnb36 := NB174_176.out; have hnc36 := NB176_174.out; have hcz37_0 : w34.cell? ⟨gb174, 0, none⟩ = some (.int .i64 a0_0) := (blk_cell BK174.out 0).trans rfl; have hcz37_1 : w34.cell? ⟨gb174, 1, none⟩ = some (.slice A0_1 l0_1.length c0_1) := (blk_cell BK174.out 1).trans rfl; have hfz37_0 := blk_frozen BK174.out 0; have hfz37_1 := blk_frozen BK174.out 1) | ((with_reducible refine gate_callee (f := 26) rfl ?_); refine goesL_ (some 10) rfl rfl Try.func26 (by kernel_rfl) rfl #[.agg #[.int .i64 a0_0, .slice A0_1 l0_1.length c0_1]] rfl (by (try simp only [List.map_toArray, List.map_cons, List.map_nil]); first | done | rfl | (simp only [List.length_drop, List.length_take]; rfl)) ?_; (with_reducible refine (watchmanref21_Is.calls k a0_0 _ _ l0_1 true _ ?side1 ?side2 A3.out).mono ?_); (case side1 => exact (Kd.C_below HR0_1.out HB.out)); (case side2 => exact HC0_1.out); rintro e w38 ⟨rfl, hb⟩; refine ⟨_, rfl, ?_⟩; replace BK174 := bl_ BK174 hb; replace BK175 := bl_ BK175 hb; replace BK176 := Aside0.mk (blk_below (g := gb176) (o := .cells #[.int .i64 0, .int .i64 0, .int .i64 0, .string (⟨#[]⟩ : ByteArray)] 35 (0, 0)) BK176.out hb); replace HB := Aside0.mk (below_step (by repeat (with_reducible first | exact HB.out | apply pw_below_drewN | apply below_drew1 | refine below_set ?_ (Aside0.out (by assumption)))) hb); (try clear hb); (try clear hb2); (try clear hk); (try clear hi); have hcz39_0 : w38.cell? ⟨gb174, 0, none⟩ = some (.int .i64 a0_0) := (blk_cell BK174.out 0).trans rfl; have hcz39_1 : w38.cell? ⟨gb174, 1, none⟩ = some (.slice A0_1 l0_1.length c0_1) := (blk_cell BK174.out 1).trans rfl; have hfz39_0 := blk_frozen BK174.out 0; have hfz39_1 := blk_frozen BK174.out 1) | ((with_reducible refine gate_callee (f := 36) rfl ?_); refine goesL_ (some 17) rfl rfl Try.func36 (by kernel_rfl) rfl #[.agg #[.int .i64 a0_0, .slice A0_1 l0_1.length c0_1], .int .i64 a1] rfl (by (try simp only [List.map_toArray, List.map_cons, List.map_nil]); first | done | rfl | (simp only [List.length_drop, List.length_take]; rfl)) ?_; (with_reducible refine (watchmanref21_find.calls k a0_0 _ _ l0_1 a1 t178 t179 t180 t181 false _ ?side1 ?side2 A5.out).mono ?_); (case side1 => exact (Kd.C_below HR0_1.out HB.out)); (case side2 => exact HC0_1.out); rintro e w40 ⟨rfl, hb⟩; refine ⟨_, rfl, ?_⟩; replace BK174 := bl_ BK174 hb; replace BK175 := bl_ BK175 hb; replace BK176 := Aside0.mk (blk_below (g := gb176) (o := .cells #[.int .i64 0, .int .i64 0, .int .i64 0, .string (⟨#[]⟩ : ByteArray)] 35 (0, 0)) BK176.out hb); replace HB := Aside0.mk (below_step (by repeat (with_reducible first | exact HB.out | apply pw_below_drewN | apply below_drew1 | refine below_set ?_ (Aside0.out (by assumption)))) hb); (try clear hb); (try clear hb2); (try clear hk); (try clear hi)) | ((with_reducible refine gate_dst (N := 7) rfl ?_); refine box_event ?hg (N := 7) ?hd (cs := #[.int .i64 0, .int .i64 0, .int .i64 0, .string (⟨#[]⟩ : ByteArray)]) (t := 35) ?hr ?_; (case hd => rfl); (case hg => rfl); (case hr => first | (go_simp; done) | (go_simp; rfl)); intro gb183 hg w41 hbox hb; have BK183 := Aside0.mk (hbox); have GW183 := Aside0.mk ((by rw [hg]; exact (below_size (by repeat (with_reducible first | exact HB.out | apply pw_below_drewN | apply below_drew1 | refine below_set ?_ (Aside0.out (by assumption))))) : w.heap.size ≤ gb183)); have GE183 := Aside0.mk ((by rw [hg]; exact (below_size (by repeat (with_reducible first | exact HB.out | apply pw_below_drewN | apply below_drew1 | refine below_set ?_ (Aside0.out (by assumption))))) : w.heap.size ≤ gb183)); replace HB := Aside0.mk (below_step (by repeat (with_reducible first | exact HB.out | apply pw_below_drewN | apply below_drew1 | refine below_set ?_ (Aside0.out (by assumption)))) hb); have NB174_183 := Aside0.mk ((by rw [hg]; exact Nat.ne_of_lt (blk_lt BK174.out) : gb174 ≠ gb183)); have NB183_174 := Aside0.mk ((by rw [hg]; exact Nat.ne_of_gt (blk_lt BK174.out) : gb183 ≠ gb174)); replace BK174 := bl_ BK174 hb; have NB175_183 := Aside0.mk ((by rw [hg]; exact Nat.ne_of_lt (blk_lt BK175.out) : gb175 ≠ gb183)); have NB183_175 := Aside0.mk ((by rw [hg]; exact Nat.ne_of_gt (blk_lt BK175.out) : gb183 ≠ gb175)); replace BK175 := bl_ BK175 hb; have NB176_183 := Aside0.mk ((by rw [hg]; exact Nat.ne_of_lt (blk_lt (g := gb176) (o := .cells #[.int .i64 0, .int .i64 0, .int .i64 0, .string (⟨#[]⟩ : ByteArray)] 35 (0, 0)) BK176.out) : gb176 ≠ gb183)); have NB183_176 := Aside0.mk ((by rw [hg]; exact Nat.ne_of_gt (blk_lt (g := gb176) (o := .cells #[.int .i64 0, .int .i64 0, .int .i64 0, .string (⟨#[]⟩ : ByteArray)] 35 (0, 0)) BK176.out) : gb183 ≠ gb176)); replace BK176 := Aside0.mk (blk_below (g := gb176) (o := .cells #[.int .i64 0, .int .i64 0, .int .i64 0, .string (⟨#[]⟩ : ByteArray)] 35 (0, 0)) BK176.out hb); clear hb hbox hg; have hnb42 := NB183_174.out; have hnc42 := NB174_183.out; have hnb43 := NB183_175.out; have hnc43 := NB175_183.out; have hnb44 := NB183_176.out; have hnc44 := NB176_183.out; have hcz45_0 : w41.cell? ⟨gb183, 0, none⟩ = some (.int .i64 0) := (blk_cell BK183.out 0).trans rfl; have hcz45_1 : w41.cell? ⟨gb183, 1, none⟩ = some (.int .i64 0) := (blk_cell BK183.out 1).trans rfl; have hcz45_2 : w41.cell? ⟨gb183, 2, none⟩ = some (.int .i64 0) := (blk_cell BK183.out 2).trans rfl; have hcz45_3 : w41.cell? ⟨gb183, 3, none⟩ = some (.string (⟨#[]⟩ : ByteArray)) := (blk_cell BK183.out 3).trans rfl; have hfz45_0 := blk_frozen BK183.out 0; have hfz45_1 := blk_frozen BK183.out 1; have hfz45_2 := blk_frozen BK183.out 2; have hfz45_3 := blk_frozen BK183.out 3; have hnb46 := NB175_176.out; have hnc46 := NB176_175.out; have hcz47_0 : w41.cell? ⟨gb175, 0, none⟩ = some (.int .i64 0) := (blk_cell BK175.out 0).trans rfl; have hcz47_1 : w41.cell? ⟨gb175, 1, none⟩ = some (.slice none 0 0) := (blk_cell BK175.out 1).trans rfl; have hfz47_0 := blk_frozen BK175.out 0; have hfz47_1 := blk_frozen BK175.out 1; have hcz48_0 : w41.cell? ⟨gb176, 0, none⟩ = some (.int .i64 0) := (blk_cell BK176.out 0).trans rfl; have hcz48_1 : w41.cell? ⟨gb176, 1, none⟩ = some (.int .i64 0) := (blk_cell BK176.out 1).trans rfl; have hcz48_2 : w41.cell? ⟨gb176, 2, none⟩ = some (.int .i64 0) := (blk_cell BK176.out 2).trans rfl; have hcz48_3 : w41.cell? ⟨gb176, 3, none⟩ = some (.string (⟨#[]⟩ : ByteArray)) := (blk_cell BK176.out 3).trans rfl; have hfz48_0 := blk_frozen BK176.out 0; have hfz48_1 := blk_frozen BK176.out 1; have hfz48_2 := blk_frozen BK176.out 2; have hfz48_3 := blk_frozen BK176.out 3))
      refine bodyPost_ret (results_list (rs := [.cell 4 24, .cell 5 35, .tmp 6]) rfl (by simp) (.cell gb175 24 #[.int .i64 0, .slice none 0 0] (0, 0) _ rfl (by refine blk_far ?_ NB175_176.out _; refine blk_far ?_ NB175_176.out _; refine blk_far ?_ NB175_176.out _; refine blk_far ?_ NB175_176.out _; refine blk_put (cs := #[.int .i64 0, .slice none 0 0]) ?_ 1 _ rfl; refine blk_put (cs := #[.int .i64 0, .slice none 0 0]) ?_ 0 _ rfl; refine blk_far ?_ NB175_183.out _; refine blk_far ?_ NB175_183.out _; refine blk_far ?_ NB175_183.out _; refine blk_far ?_ NB175_183.out _; exact BK175.out) Try.underlying24 rfl (by kernel_rfl) (.cell gb176 35 #[.int .i64 0, .int .i64 0, .int .i64 0, .string (⟨#[]⟩ : ByteArray)] (0, 0) _ rfl (by refine blk_put (cs := #[.int .i64 0, .int .i64 0, .int .i64 0, .string (⟨#[]⟩ : ByteArray)]) ?_ 3 _ rfl; refine blk_put (cs := #[.int .i64 0, .int .i64 0, .int .i64 0, .string (⟨#[]⟩ : ByteArray)]) ?_ 2 _ rfl; refine blk_put (cs := #[.int .i64 0, .int .i64 0, .int .i64 0, .string (⟨#[]⟩ : ByteArray)]) ?_ 1 _ rfl; refine blk_put (cs := #[.int .i64 0, .int .i64 0, .int .i64 0, .string (⟨#[]⟩ : ByteArray)]) ?_ 0 _ rfl; refine blk_far ?_ NB176_175.out _; refine blk_far ?_ NB176_175.out _; refine blk_far ?_ NB176_183.out _; refine blk_far ?_ NB176_183.out _; refine blk_far ?_ NB176_183.out _; refine blk_far ?_ NB176_183.out _; exact BK176.out) Try.underlying35 rfl (by kernel_rfl) (.tmp .nil)))) rfl ?_
      exact ⟨_, by first | rfl | (simp [errW_none, errW_some] <;> rfl) | (simp [*, errW_none, errW_some] <;> rfl), by first | exact Kd.R_nil _ _ _ _ _ | exact Kd.N_nil _ _ _ _ _ | exact Kd.V_nil _ _ _ _ _ | exact Kd.Q_nil _ _ _ _ _ | exact Kd.S_nil _ _ _ _ _, by repeat (with_reducible first | exact HB.out | apply pw_below_drewN | apply below_drew1 | refine below_set ?_ (Aside0.out (by assumption)))⟩
  · replace c4 := Bool.eq_false_iff.mpr c4
    subst c4
    have H1 : (some (0, ([] : List (S35)), 0, 0, 0, (⟨#[]⟩ : ByteArray), 1)) = some (r1, r2, r3, r4, r5, r6, r7) := by rw [if_neg (show ¬ (false = true) by decide)] at H; exact H
    clear H
    have H := H1
    clear H1
    simp only [Option.some.injEq, Prod.mk.injEq] at H
    obtain ⟨rfl, rfl, rfl, rfl, rfl, rfl, rfl⟩ := H
    go_enter Try.func14, Try.ntmps14
    go_wp2_with (first | ((with_reducible refine gate_dst (N := 2) rfl ?_); refine box_event ?hg (N := 2) ?hd (cs := #[.int .i64 a0_0, .slice A0_1 l0_1.length c0_1]) (t := 24) ?hr ?_; (case hd => rfl); (case hg => rfl); (case hr => first | (go_simp; done) | (go_simp; rfl)); intro gb174 hg w49 hbox hb; have BK174 := Aside0.mk (hbox); have GW174 := Aside0.mk ((by rw [hg]; exact (below_size HB.out) : w.heap.size ≤ gb174)); have GE174 := Aside0.mk ((by rw [hg]; exact (below_size HB.out) : w.heap.size ≤ gb174)); replace HB := Aside0.mk (below_step HB.out hb); clear hb hbox hg) | ((with_reducible refine gate_dst (N := 4) rfl ?_); refine box_event ?hg (N := 4) ?hd (cs := #[.int .i64 0, .slice none 0 0]) (t := 24) ?hr ?_; (case hd => rfl); (case hg => rfl); (case hr => first | (go_simp; done) | (go_simp; rfl)); intro gb175 hg w50 hbox hb; have BK175 := Aside0.mk (hbox); have GW175 := Aside0.mk ((by rw [hg]; exact (below_size (by repeat (with_reducible first | exact HB.out | apply pw_below_drewN | apply below_drew1 | refine below_set ?_ GE174.out))) : w.heap.size ≤ gb175)); have GE175 := Aside0.mk ((by rw [hg]; exact (below_size (by repeat (with_reducible first | exact HB.out | apply pw_below_drewN | apply below_drew1 | refine below_set ?_ GE174.out))) : w.heap.size ≤ gb175)); replace HB := Aside0.mk (below_step (by repeat (with_reducible first | exact HB.out | apply pw_below_drewN | apply below_drew1 | refine below_set ?_ GE174.out)) hb); have NB174_175 := Aside0.mk ((by rw [hg]; exact Nat.ne_of_lt (blk_lt BK174.out) : gb174 ≠ gb175)); have NB175_174 := Aside0.mk ((by rw [hg]; exact Nat.ne_of_gt (blk_lt BK174.out) : gb175 ≠ gb174)); replace BK174 := bl_ BK174 hb; clear hb hbox hg) | ((with_reducible refine gate_dst (N := 5) rfl ?_); refine box_event ?hg (N := 5) ?hd (cs := #[.int .i64 0, .int .i64 0, .int .i64 0, .string (⟨#[]⟩ : ByteArray)]) (t := 35) ?hr ?_; (case hd => rfl); (case hg => rfl); (case hr => first | (go_simp; done) | (go_simp; rfl)); intro gb176 hg w51 hbox hb; have BK176 := Aside0.mk (hbox); have GW176 := Aside0.mk ((by rw [hg]; exact (below_size (by repeat (with_reducible first | exact HB.out | apply pw_below_drewN | apply below_drew1 | refine below_set ?_ (Aside0.out (by assumption))))) : w.heap.size ≤ gb176)); have GE176 := Aside0.mk ((by rw [hg]; exact (below_size (by repeat (with_reducible first | exact HB.out | apply pw_below_drewN | apply below_drew1 | refine below_set ?_ (Aside0.out (by assumption))))) : w.heap.size ≤ gb176)); replace HB := Aside0.mk (below_step (by repeat (with_reducible first | exact HB.out | apply pw_below_drewN | apply below_drew1 | refine below_set ?_ (Aside0.out (by assumption)))) hb); have NB174_176 := Aside0.mk ((by rw [hg]; exact Nat.ne_of_lt (blk_lt BK174.out) : gb174 ≠ gb176)); have NB176_174 := Aside0.mk ((by rw [hg]; exact Nat.ne_of_gt (blk_lt BK174.out) : gb176 ≠ gb174)); replace BK174 := bl_ BK174 hb; have NB175_176 := Aside0.mk ((by rw [hg]; exact Nat.ne_of_lt (blk_lt BK175.out) : gb175 ≠ gb176)); have NB176_175 := Aside0.mk ((by rw [hg]; exact Nat.ne_of_gt (blk_lt BK175.out) : gb176 ≠ gb175)); replace BK175 := bl_ BK175 hb; clear hb hbox hg; have hnb52 := NB174_175.out; have hnc52 := NB175_174.out; have hnb53 := NB174_176.out; have hnc53 := NB176_174.out; have hcz54_0 : w51.cell? ⟨gb174, 0, none⟩ = some (.int .i64 a0_0) := (blk_cell BK174.out 0).trans rfl; have hcz54_1 : w51.cell? ⟨gb174, 1, none⟩ = some (.slice A0_1 l0_1.length c0_1) := (blk_cell BK174.out 1).trans rfl; have hfz54_0 := blk_frozen BK174.out 0; have hfz54_1 := blk_frozen BK174.out 1) | ((with_reducible refine gate_callee (f := 26) rfl ?_); refine goesL_ (some 10) rfl rfl Try.func26 (by kernel_rfl) rfl #[.agg #[.int .i64 a0_0, .slice A0_1 l0_1.length c0_1]] rfl (by (try simp only [List.map_toArray, List.map_cons, List.map_nil]); first | done | rfl | (simp only [List.length_drop, List.length_take]; rfl)) ?_; (with_reducible refine (watchmanref21_Is.calls k a0_0 _ _ l0_1 false _ ?side1 ?side2 A3.out).mono ?_); (case side1 => exact (Kd.C_below HR0_1.out HB.out)); (case side2 => exact HC0_1.out); rintro e w55 ⟨rfl, hb⟩; refine ⟨_, rfl, ?_⟩; replace BK174 := bl_ BK174 hb; replace BK175 := bl_ BK175 hb; replace BK176 := Aside0.mk (blk_below (g := gb176) (o := .cells #[.int .i64 0, .int .i64 0, .int .i64 0, .string (⟨#[]⟩ : ByteArray)] 35 (0, 0)) BK176.out hb); replace HB := Aside0.mk (below_step (by repeat (with_reducible first | exact HB.out | apply pw_below_drewN | apply below_drew1 | refine below_set ?_ (Aside0.out (by assumption)))) hb); (try clear hb); (try clear hb2); (try clear hk); (try clear hi); have hnb56 := NB175_176.out; have hnc56 := NB176_175.out; have hcz57_0 : w55.cell? ⟨gb175, 0, none⟩ = some (.int .i64 0) := (blk_cell BK175.out 0).trans rfl; have hcz57_1 : w55.cell? ⟨gb175, 1, none⟩ = some (.slice none 0 0) := (blk_cell BK175.out 1).trans rfl; have hfz57_0 := blk_frozen BK175.out 0; have hfz57_1 := blk_frozen BK175.out 1; have hcz58_0 : w55.cell? ⟨gb176, 0, none⟩ = some (.int .i64 0) := (blk_cell BK176.out 0).trans rfl; have hcz58_1 : w55.cell? ⟨gb176, 1, none⟩ = some (.int .i64 0) := (blk_cell BK176.out 1).trans rfl; have hcz58_2 : w55.cell? ⟨gb176, 2, none⟩ = some (.int .i64 0) := (blk_cell BK176.out 2).trans rfl; have hcz58_3 : w55.cell? ⟨gb176, 3, none⟩ = some (.string (⟨#[]⟩ : ByteArray)) := (blk_cell BK176.out 3).trans rfl; have hfz58_0 := blk_frozen BK176.out 0; have hfz58_1 := blk_frozen BK176.out 1; have hfz58_2 := blk_frozen BK176.out 2; have hfz58_3 := blk_frozen BK176.out 3))
    refine bodyPost_ret (results_list (rs := [.cell 4 24, .cell 5 35, .tmp 6]) rfl (by simp) (.cell gb175 24 #[.int .i64 0, .slice none 0 0] (0, 0) _ rfl (by refine blk_far ?_ NB175_176.out _; refine blk_far ?_ NB175_176.out _; refine blk_far ?_ NB175_176.out _; refine blk_far ?_ NB175_176.out _; refine blk_put (cs := #[.int .i64 0, .slice none 0 0]) ?_ 1 _ rfl; refine blk_put (cs := #[.int .i64 0, .slice none 0 0]) ?_ 0 _ rfl; exact BK175.out) Try.underlying24 rfl (by kernel_rfl) (.cell gb176 35 #[.int .i64 0, .int .i64 0, .int .i64 0, .string (⟨#[]⟩ : ByteArray)] (0, 0) _ rfl (by refine blk_put (cs := #[.int .i64 0, .int .i64 0, .int .i64 0, .string (⟨#[]⟩ : ByteArray)]) ?_ 3 _ rfl; refine blk_put (cs := #[.int .i64 0, .int .i64 0, .int .i64 0, .string (⟨#[]⟩ : ByteArray)]) ?_ 2 _ rfl; refine blk_put (cs := #[.int .i64 0, .int .i64 0, .int .i64 0, .string (⟨#[]⟩ : ByteArray)]) ?_ 1 _ rfl; refine blk_put (cs := #[.int .i64 0, .int .i64 0, .int .i64 0, .string (⟨#[]⟩ : ByteArray)]) ?_ 0 _ rfl; refine blk_far ?_ NB176_175.out _; refine blk_far ?_ NB176_175.out _; exact BK176.out) Try.underlying35 rfl (by kernel_rfl) (.tmp .nil)))) rfl ?_
    exact ⟨_, by first | rfl | (simp [errW_none, errW_some] <;> rfl) | (simp [*, errW_none, errW_some] <;> rfl), by first | exact Kd.R_nil _ _ _ _ _ | exact Kd.N_nil _ _ _ _ _ | exact Kd.V_nil _ _ _ _ _ | exact Kd.Q_nil _ _ _ _ _ | exact Kd.S_nil _ _ _ _ _, by repeat (with_reducible first | exact HB.out | apply pw_below_drewN | apply below_drew1 | refine below_set ?_ (Aside0.out (by assumption)))⟩

/-! ### post_Again: function 15 -/
def post_Again.f (k : Nat) (a0_0 : Int) (l0_1 : List (S35)) (a1 : Int) : Option (Int × (List (S35)) × Int × Int) := (post_find.f k a0_0 l0_1 a1).bind fun bt189 => (if bt189.2 = 0 then (if 0 ≤ bt189.1 then (if bt189.1 < (l0_1.length : Int) then ((post_Send.f k a0_0 l0_1 ((rd_T35 l0_1 bt189.1).f1) ((rd_T35 l0_1 bt189.1).f2) (([(rd_T35 l0_1 bt189.1).f3] : List ByteArray))).bind fun bt196 => (some (bt196.1, bt196.2.1, bt196.2.2.1, bt196.2.2.2))) else (none)) else (none)) else (some (0, ([] : List (S35)), 0, bt189.2)))
theorem post_Again.mono : ∀ a0 a1 a2 k, LeO (post_Again.f k a0 a1 a2) (post_Again.f (k + 1) a0 a1 a2) := by
  intro a0 a1 a2 k
  unfold post_Again.f
  repeat' first
      | (with_reducible exact post_Send.mono _ _ _ _ _ _)
      | (with_reducible exact post_find.mono _ _ _ _)
      | (with_reducible exact LeO.refl _)
      | (with_reducible exact LeO.none _)
      | (with_reducible refine LeO.ite ?_ ?_)
      | (with_reducible refine LeO.bind ?_ (fun _ => ?_))
      | exact post_Send.mono _ _ _ _ _ _
      | exact post_find.mono _ _ _ _
      | exact LeO.none _
      | refine LeO.ite ?_ ?_
      | refine LeO.bind ?_ (fun _ => ?_)
set_option maxHeartbeats 8000000 in
set_option maxRecDepth 100000 in
theorem post_Again.calls (k : Nat) (a0_0 : Int) (A0_1 : Option Addr) (c0_1 : Nat) (l0_1 : List (S35)) (a1 : Int) (r1 : Int) (r2 : List (S35)) (r3 : Int) (r4 : Int) (w : World) (hr0_1 : Kd.C k35 w A0_1 l0_1.length l0_1) (hc0_1 : l0_1.length ≤ c0_1) (h : post_Again.f k a0_0 l0_1 a1 = some (r1, r2, r3, r4)) :
    Calls Try.prog 15 #[.agg #[.int .i64 a0_0, .slice A0_1 l0_1.length c0_1], .int .i64 a1] w fun e w' => ∃ v1_ : Value, e = .returned (.tuple #[.agg #[.int .i64 r1, v1_], .int .i64 r3, .int .i64 r4]) ∧ Kd.R k35 35 w' w.heap.size (fun _ => True) v1_ r2 ∧ Below w.heap.size w w' := by
  have hu24 := Try.underlying24
  have hu35 := Try.underlying35
  have HR0_1 := Aside0.mk hr0_1
  have HC0_1 := Aside0.mk hc0_1
  clear hr0_1 hc0_1
  have HB := Aside0.mk (Below.refl w.heap.size w)
  have H : ((post_find.f k a0_0 l0_1 a1).bind fun bt189 => (if bt189.2 = 0 then (if 0 ≤ bt189.1 then (if bt189.1 < (l0_1.length : Int) then ((post_Send.f k a0_0 l0_1 ((rd_T35 l0_1 bt189.1).f1) ((rd_T35 l0_1 bt189.1).f2) (([(rd_T35 l0_1 bt189.1).f3] : List ByteArray))).bind fun bt196 => (some (bt196.1, bt196.2.1, bt196.2.2.1, bt196.2.2.2))) else (none)) else (none)) else (some (0, ([] : List (S35)), 0, bt189.2)))) = some (r1, r2, r3, r4) := h
  clear h
  replace H := Option.bind_eq_some_iff.mp H
  obtain ⟨⟨t189, t190⟩, A30, H⟩ := H
  replace H : (if t190 = 0 then (if 0 ≤ t189 then (if t189 < (l0_1.length : Int) then ((post_Send.f k a0_0 l0_1 ((rd_T35 l0_1 t189).f1) ((rd_T35 l0_1 t189).f2) (([(rd_T35 l0_1 t189).f3] : List ByteArray))).bind fun bt196 => (some (bt196.1, bt196.2.1, bt196.2.2.1, bt196.2.2.2))) else (none)) else (none)) else (some (0, ([] : List (S35)), 0, t190))) = some (r1, r2, r3, r4) := H
  have A3 := Aside0.mk A30
  clear A30
  by_cases c4 : t190 = 0
  · rw [if_pos c4] at H
    have c4b0 : (t190 == 0) = true := beq_iff_eq.mpr c4
    have c4b1 : (t190 != 0) = false := bne_eq_false_iff_eq.mpr c4
    clear c4
    by_cases c5 : 0 ≤ t189
    · rw [if_pos c5] at H
      have c5b0 : decide (0 ≤ t189) = true := decide_eq_true c5
      clear c5
      by_cases c6 : t189 < (l0_1.length : Int)
      · rw [if_pos c6] at H
        have c6b0 : decide (t189 < (l0_1.length : Int)) = true := decide_eq_true c6
        clear c6
        obtain ⟨y193, hy193⟩ : ∃ y_ : List ByteArray, y_ = (([(rd_T35 l0_1 t189).f3] : List ByteArray)) := ⟨_, rfl⟩
        replace H : ((post_Send.f k a0_0 l0_1 ((rd_T35 l0_1 t189).f1) ((rd_T35 l0_1 t189).f2) y193).bind fun bt196 => (some (bt196.1, bt196.2.1, bt196.2.2.1, bt196.2.2.2))) = some (r1, r2, r3, r4) := by first | (rw [hy193]; with_reducible exact H) | (have H2_ := (Option.bind_some _ _).symm.trans H; rw [hy193]; with_reducible exact H2_) | (have H2_ := (Option.bind_some _ _).symm.trans H; with_reducible exact H2_) | with_reducible exact H | (rw [hy193]; exact H) | exact H
        have Ny193 := Aside0.mk hy193
        clear hy193
        replace H := Option.bind_eq_some_iff.mp H
        obtain ⟨⟨t196, t197, t200, t201⟩, A70, H⟩ := H
        replace H : (some (t196, t197, t200, t201)) = some (r1, r2, r3, r4) := H
        have A7 := Aside0.mk A70
        clear A70
        simp only [Option.some.injEq, Prod.mk.injEq] at H
        obtain ⟨rfl, rfl, rfl, rfl⟩ := H
        go_enter Try.func15, Try.ntmps15
        go_wp2_with (first | ((with_reducible refine gate_dst (N := 2) rfl ?_); refine box_event ?hg (N := 2) ?hd (cs := #[.int .i64 a0_0, .slice A0_1 l0_1.length c0_1]) (t := 24) ?hr ?_; (case hd => rfl); (case hg => rfl); (case hr => first | (go_simp; done) | (go_simp; rfl)); intro gb187 hg w8 hbox hb; have BK187 := Aside0.mk (hbox); have GW187 := Aside0.mk ((by rw [hg]; exact (below_size HB.out) : w.heap.size ≤ gb187)); have GE187 := Aside0.mk ((by rw [hg]; exact (below_size HB.out) : w.heap.size ≤ gb187)); replace HB := Aside0.mk (below_step HB.out hb); clear hb hbox hg) | ((with_reducible refine gate_dst (N := 4) rfl ?_); refine box_event ?hg (N := 4) ?hd (cs := #[.int .i64 0, .slice none 0 0]) (t := 24) ?hr ?_; (case hd => rfl); (case hg => rfl); (case hr => first | (go_simp; done) | (go_simp; rfl)); intro gb188 hg w9 hbox hb; have BK188 := Aside0.mk (hbox); have GW188 := Aside0.mk ((by rw [hg]; exact (below_size (by repeat (with_reducible first | exact HB.out | apply pw_below_drewN | apply below_drew1 | refine below_set ?_ GE187.out))) : w.heap.size ≤ gb188)); have GE188 := Aside0.mk ((by rw [hg]; exact (below_size (by repeat (with_reducible first | exact HB.out | apply pw_below_drewN | apply below_drew1 | refine below_set ?_ GE187.out))) : w.heap.size ≤ gb188)); replace HB := Aside0.mk (below_step (by repeat (with_reducible first | exact HB.out | apply pw_below_drewN | apply below_drew1 | refine below_set ?_ GE187.out)) hb); have NB187_188 := Aside0.mk ((by rw [hg]; exact Nat.ne_of_lt (blk_lt BK187.out) : gb187 ≠ gb188)); have NB188_187 := Aside0.mk ((by rw [hg]; exact Nat.ne_of_gt (blk_lt BK187.out) : gb188 ≠ gb187)); replace BK187 := bl_ BK187 hb; clear hb hbox hg; have hnb10 := NB187_188.out; have hnc10 := NB188_187.out; have hcz11_0 : w9.cell? ⟨gb187, 0, none⟩ = some (.int .i64 a0_0) := (blk_cell BK187.out 0).trans rfl; have hcz11_1 : w9.cell? ⟨gb187, 1, none⟩ = some (.slice A0_1 l0_1.length c0_1) := (blk_cell BK187.out 1).trans rfl; have hfz11_0 := blk_frozen BK187.out 0; have hfz11_1 := blk_frozen BK187.out 1) | ((with_reducible refine gate_callee (f := 34) rfl ?_); refine goesL_ (some 13) rfl rfl Try.func34 (by kernel_rfl) rfl #[.agg #[.int .i64 a0_0, .slice A0_1 l0_1.length c0_1], .int .i64 a1] rfl (by (try simp only [List.map_toArray, List.map_cons, List.map_nil]); first | done | rfl | (simp only [List.length_drop, List.length_take]; rfl)) ?_; (with_reducible refine (post_find.calls k a0_0 _ _ l0_1 a1 t189 t190 _ ?side1 ?side2 A3.out).mono ?_); (case side1 => exact (Kd.C_below HR0_1.out HB.out)); (case side2 => exact HC0_1.out); rintro e w12 ⟨rfl, hb⟩; refine ⟨_, rfl, ?_⟩; replace BK187 := bl_ BK187 hb; replace BK188 := bl_ BK188 hb; replace HB := Aside0.mk (below_step (by repeat (with_reducible first | exact HB.out | apply pw_below_drewN | apply below_drew1 | refine below_set ?_ (Aside0.out (by assumption)))) hb); (try clear hb); (try clear hb2); (try clear hk); (try clear hi); have hcz13_0 : w12.cell? ⟨gb187, 0, none⟩ = some (.int .i64 a0_0) := (blk_cell BK187.out 0).trans rfl; have hcz13_1 : w12.cell? ⟨gb187, 1, none⟩ = some (.slice A0_1 l0_1.length c0_1) := (blk_cell BK187.out 1).trans rfl; have hfz13_0 := blk_frozen BK187.out 0; have hfz13_1 := blk_frozen BK187.out 1; have p191 : 0 ≤ (t189 : Int) := of_decide_eq_true (by first | (with_reducible assumption) | assumption); have q191 : t189 < (l0_1.length : Int) := of_decide_eq_true (by first | (with_reducible assumption) | assumption); obtain ⟨ad191, e191, hx191_0, hx191_1, hx191_2, hx191_3⟩ := at_T35 HR0_1.out t189 p191 q191; cases e191; replace hx191_0 := (HB.out.cell (World.block_lt_of_cell? w _ hx191_0)).trans hx191_0; replace hx191_1 := (HB.out.cell (World.block_lt_of_cell? w _ hx191_1)).trans hx191_1; replace hx191_2 := (HB.out.cell (World.block_lt_of_cell? w _ hx191_2)).trans hx191_2; replace hx191_3 := (HB.out.cell (World.block_lt_of_cell? w _ hx191_3)).trans hx191_3; replace p191 := eq_true p191; replace q191 := eq_true q191) | ((with_reducible refine gate_dst (N := 9) rfl ?_); refine box_event ?hg (N := 9) ?hd (cs := #[.int .i64 0, .int .i64 0, .int .i64 0, .string (⟨#[]⟩ : ByteArray)]) (t := 35) ?hr ?_; (case hd => rfl); (case hg => rfl); (case hr => first | (go_simp; done) | (go_simp; rfl)); intro gb192 hg w14 hbox hb; have BK192 := Aside0.mk (hbox); have GW192 := Aside0.mk ((by rw [hg]; exact (below_size (by repeat (with_reducible first | exact HB.out | apply pw_below_drewN | apply below_drew1 | refine below_set ?_ (Aside0.out (by assumption))))) : w.heap.size ≤ gb192)); have GE192 := Aside0.mk ((by rw [hg]; exact (below_size (by repeat (with_reducible first | exact HB.out | apply pw_below_drewN | apply below_drew1 | refine below_set ?_ (Aside0.out (by assumption))))) : w.heap.size ≤ gb192)); replace HB := Aside0.mk (below_step (by repeat (with_reducible first | exact HB.out | apply pw_below_drewN | apply below_drew1 | refine below_set ?_ (Aside0.out (by assumption)))) hb); have NB187_192 := Aside0.mk ((by rw [hg]; exact Nat.ne_of_lt (blk_lt BK187.out) : gb187 ≠ gb192)); have NB192_187 := Aside0.mk ((by rw [hg]; exact Nat.ne_of_gt (blk_lt BK187.out) : gb192 ≠ gb187)); replace BK187 := bl_ BK187 hb; have NB188_192 := Aside0.mk ((by rw [hg]; exact Nat.ne_of_lt (blk_lt BK188.out) : gb188 ≠ gb192)); have NB192_188 := Aside0.mk ((by rw [hg]; exact Nat.ne_of_gt (blk_lt BK188.out) : gb192 ≠ gb188)); replace BK188 := bl_ BK188 hb; clear hb hbox hg; have hnb15 := NB192_187.out; have hnc15 := NB187_192.out; have hnb16 := NB192_188.out; have hnc16 := NB188_192.out; have hcz17_0 : w14.cell? ⟨gb192, 0, none⟩ = some (.int .i64 0) := (blk_cell BK192.out 0).trans rfl; have hcz17_1 : w14.cell? ⟨gb192, 1, none⟩ = some (.int .i64 0) := (blk_cell BK192.out 1).trans rfl; have hcz17_2 : w14.cell? ⟨gb192, 2, none⟩ = some (.int .i64 0) := (blk_cell BK192.out 2).trans rfl; have hcz17_3 : w14.cell? ⟨gb192, 3, none⟩ = some (.string (⟨#[]⟩ : ByteArray)) := (blk_cell BK192.out 3).trans rfl; have hfz17_0 := blk_frozen BK192.out 0; have hfz17_1 := blk_frozen BK192.out 1; have hfz17_2 := blk_frozen BK192.out 2; have hfz17_3 := blk_frozen BK192.out 3; have hcz18_0 : w14.cell? ⟨gb187, 0, none⟩ = some (.int .i64 a0_0) := (blk_cell BK187.out 0).trans rfl; have hcz18_1 : w14.cell? ⟨gb187, 1, none⟩ = some (.slice (some ad191) l0_1.length c0_1) := (blk_cell BK187.out 1).trans rfl; have hfz18_0 := blk_frozen BK187.out 0; have hfz18_1 := blk_frozen BK187.out 1) | ((with_reducible refine gate_dst (N := 32) rfl ?_); refine Kd.R_lit Kd.string _ 9 ?hg (N := 32) ?hd (xs := ([(rd_T35 l0_1 t189).f3] : List ByteArray)) (inner := [.string ((rd_T35 l0_1 t189).f3)]) (ok := fun _ => True) (okp := fun _ => True) ?hr ?hp (fun _ hk => hk) trivial (Below.refl _ _) (Nat.le_refl _) (by simp) ?_; (case hd => rfl); (case hg => rfl); (case hr => first | (go_simp; done) | (go_simp; rfl)); (case hp => exact (Reps.one (show Kd.M Kd.string _ _ _ ((rd_T35 l0_1 t189).f3) [.string ((rd_T35 l0_1 t189).f3)] from rfl) (Reps.none _ _))); intro v194 w19 ho20 hb hg_ hnew_; clear hg_ hnew_; (first | rw [← Ny193.out] at ho20 | (simp only [Int.reduceToNat] at ho20; rw [← Ny193.out] at ho20)); have HO195 := Aside0.mk (Kd.R_lower ho20 (below_size (by repeat (with_reducible first | exact HB.out | apply pw_below_drewN | apply below_drew1 | refine below_set ?_ (Aside0.out (by assumption)))))); replace BK187 := Aside0.mk (blk_below (g := gb187) (o := .cells #[.int .i64 a0_0, .slice (some ad191) l0_1.length c0_1] 24 (0, 0)) (by refine blk_far ?_ NB187_192.out _; refine blk_far ?_ NB187_192.out _; refine blk_far ?_ NB187_192.out _; refine blk_far ?_ NB187_192.out _; exact BK187.out) hb); replace BK188 := Aside0.mk (blk_below (g := gb188) (o := .cells #[.int .i64 0, .slice none 0 0] 24 (0, 0)) (by refine blk_far ?_ NB188_192.out _; refine blk_far ?_ NB188_192.out _; refine blk_far ?_ NB188_192.out _; refine blk_far ?_ NB188_192.out _; exact BK188.out) hb); replace BK192 := Aside0.mk (blk_below (g := gb192) (o := .cells #[.int .i64 ((rd_T35 l0_1 t189).f0), .int .i64 ((rd_T35 l0_1 t189).f1), .int .i64 ((rd_T35 l0_1 t189).f2), .string ((rd_T35 l0_1 t189).f3)] 35 (0, 0)) (by refine blk_put (cs := #[.int .i64 ((rd_T35 l0_1 t189).f0), .int .i64 ((rd_T35 l0_1 t189).f1), .int .i64 ((rd_T35 l0_1 t189).f2), .string (⟨#[]⟩ : ByteArray)]) ?_ 3 _ rfl; refine blk_put (cs := #[.int .i64 ((rd_T35 l0_1 t189).f0), .int .i64 ((rd_T35 l0_1 t189).f1), .int .i64 0, .string (⟨#[]⟩ : ByteArray)]) ?_ 2 _ rfl; refine blk_put (cs := #[.int .i64 ((rd_T35 l0_1 t189).f0), .int .i64 0, .int .i64 0, .string (⟨#[]⟩ : ByteArray)]) ?_ 1 _ rfl; refine blk_put (cs := #[.int .i64 0, .int .i64 0, .int .i64 0, .string (⟨#[]⟩ : ByteArray)]) ?_ 0 _ rfl; exact BK192.out) hb); replace HB := Aside0.mk (below_step (by repeat (with_reducible first | exact HB.out | apply pw_below_drewN | apply below_drew1 | refine below_set ?_ (Aside0.out (by assumption)))) hb); clear hb ho20; obtain ⟨Ao21, co21, eo21⟩ := Kd.R_slice HO195.out; subst eo21) | ((with_reducible refine gate_callee (f := 10) rfl ?_); refine goesL_ (some 33) rfl rfl Try.func10 (by kernel_rfl) rfl #[.agg #[.int .i64 a0_0, .slice (some ad191) l0_1.length c0_1], .int .i64 ((rd_T35 l0_1 t189).f1), .int .i64 ((rd_T35 l0_1 t189).f2), .slice Ao21 y193.length co21] rfl (by (try simp only [List.map_toArray, List.map_cons, List.map_nil]); first | done | rfl | (simp only [List.length_drop, List.length_take]; rfl)) ?_; (with_reducible refine (post_Send.calls k a0_0 _ _ l0_1 ((rd_T35 l0_1 t189).f1) ((rd_T35 l0_1 t189).f2) _ _ y193 t196 t197 t200 t201 _ ?side1 ?side2 ?side3 ?side4 A7.out).mono ?_); (case side1 => exact (Kd.C_below HR0_1.out HB.out)); (case side2 => exact HC0_1.out); (case side3 => repeat (first | exact (Kd.R_reads' HO195.out).2.2 | (with_reducible refine Kd.C_alloc ?_ _) | (with_reducible refine Kd.C_drewN ?_ _) | (with_reducible refine Kd.C_drew ?_))); (case side4 => exact (Kd.R_reads' HO195.out).2.1); rintro e w22 ⟨v198, rfl, ho0, hb⟩; refine ⟨_, rfl, ?_⟩; replace HO195 := rb_ HO195 hb; have HO199 := Aside0.mk (Kd.R_lower (Kd.R_newB ho0 (g := gb192) (o := .cells #[.int .i64 ((rd_T35 l0_1 t189).f0), .int .i64 ((rd_T35 l0_1 t189).f1), .int .i64 ((rd_T35 l0_1 t189).f2), .string ((rd_T35 l0_1 t189).f3)] 35 (0, 0)) BK192.out) (below_size (by repeat (with_reducible first | exact HB.out | apply pw_below_drewN | apply below_drew1 | refine below_set ?_ (Aside0.out (by assumption)))))); replace BK187 := bl_ BK187 hb; replace BK188 := bl_ BK188 hb; replace BK192 := bl_ BK192 hb; replace HB := Aside0.mk (below_step (by repeat (with_reducible first | exact HB.out | apply pw_below_drewN | apply below_drew1 | refine below_set ?_ (Aside0.out (by assumption)))) hb); (try clear hb); (try clear hb2); (try clear hk); (try clear hi); (try clear ho0); have hcz23_0 : w22.cell? ⟨gb188, 0, none⟩ = some (.int .i64 0) := (blk_cell BK188.out 0).trans rfl; have hcz23_1 : w22.cell? ⟨gb188, 1, none⟩ = some (.slice none 0 0) := (blk_cell BK188.out 1).trans rfl; have hfz23_0 := blk_frozen BK188.out 0; have hfz23_1 := blk_frozen BK188.out 1; obtain ⟨Ao24, co24, eo24⟩ := Kd.R_slice HO199.out; subst eo24))
        refine bodyPost_ret (results_ctt rfl _ _ gb188 24 #[.int .i64 t196, .slice Ao24 t197.length co24] (0, 0) _ rfl (by refine blk_put (cs := #[.int .i64 t196, .slice none 0 0]) ?_ 1 _ rfl; refine blk_put (cs := #[.int .i64 0, .slice none 0 0]) ?_ 0 _ rfl; exact BK188.out) Try.underlying24 rfl (by kernel_rfl)) rfl ?_
        exact ⟨_, by first | rfl | (simp [errW_none, errW_some] <;> rfl) | (simp [*, errW_none, errW_some] <;> rfl), by (with_reducible repeat (first | apply Kd.R_alloc | apply Kd.R_drewN | apply Kd.R_drew)); exact Kd.R_mono (rf2 (Kd.R_types HO199.out BK188.out (by decide)) (fun _ hk => hk.2) (.int .i64 t196) (.slice Ao24 t197.length co24)) (fun _ hk => trivial), by repeat (with_reducible first | exact HB.out | apply pw_below_drewN | apply below_drew1 | refine below_set ?_ (Aside0.out (by assumption)))⟩
      · rw [if_neg c6] at H
        exact absurd H (by simp)
    · rw [if_neg c5] at H
      exact absurd H (by simp)
  · rw [if_neg c4] at H
    have c4b0 : (t190 == 0) = false := beq_eq_false_iff_ne.mpr c4
    have c4b1 : (t190 != 0) = true := bne_iff_ne.mpr c4
    simp only [Option.some.injEq, Prod.mk.injEq] at H
    obtain ⟨rfl, rfl, rfl, rfl⟩ := H
    go_enter Try.func15, Try.ntmps15
    go_wp2_with (first | ((with_reducible refine gate_dst (N := 2) rfl ?_); refine box_event ?hg (N := 2) ?hd (cs := #[.int .i64 a0_0, .slice A0_1 l0_1.length c0_1]) (t := 24) ?hr ?_; (case hd => rfl); (case hg => rfl); (case hr => first | (go_simp; done) | (go_simp; rfl)); intro gb187 hg w25 hbox hb; have BK187 := Aside0.mk (hbox); have GW187 := Aside0.mk ((by rw [hg]; exact (below_size HB.out) : w.heap.size ≤ gb187)); have GE187 := Aside0.mk ((by rw [hg]; exact (below_size HB.out) : w.heap.size ≤ gb187)); replace HB := Aside0.mk (below_step HB.out hb); clear hb hbox hg) | ((with_reducible refine gate_dst (N := 4) rfl ?_); refine box_event ?hg (N := 4) ?hd (cs := #[.int .i64 0, .slice none 0 0]) (t := 24) ?hr ?_; (case hd => rfl); (case hg => rfl); (case hr => first | (go_simp; done) | (go_simp; rfl)); intro gb188 hg w26 hbox hb; have BK188 := Aside0.mk (hbox); have GW188 := Aside0.mk ((by rw [hg]; exact (below_size (by repeat (with_reducible first | exact HB.out | apply pw_below_drewN | apply below_drew1 | refine below_set ?_ GE187.out))) : w.heap.size ≤ gb188)); have GE188 := Aside0.mk ((by rw [hg]; exact (below_size (by repeat (with_reducible first | exact HB.out | apply pw_below_drewN | apply below_drew1 | refine below_set ?_ GE187.out))) : w.heap.size ≤ gb188)); replace HB := Aside0.mk (below_step (by repeat (with_reducible first | exact HB.out | apply pw_below_drewN | apply below_drew1 | refine below_set ?_ GE187.out)) hb); have NB187_188 := Aside0.mk ((by rw [hg]; exact Nat.ne_of_lt (blk_lt BK187.out) : gb187 ≠ gb188)); have NB188_187 := Aside0.mk ((by rw [hg]; exact Nat.ne_of_gt (blk_lt BK187.out) : gb188 ≠ gb187)); replace BK187 := bl_ BK187 hb; clear hb hbox hg; have hnb27 := NB187_188.out; have hnc27 := NB188_187.out; have hcz28_0 : w26.cell? ⟨gb187, 0, none⟩ = some (.int .i64 a0_0) := (blk_cell BK187.out 0).trans rfl; have hcz28_1 : w26.cell? ⟨gb187, 1, none⟩ = some (.slice A0_1 l0_1.length c0_1) := (blk_cell BK187.out 1).trans rfl; have hfz28_0 := blk_frozen BK187.out 0; have hfz28_1 := blk_frozen BK187.out 1) | ((with_reducible refine gate_callee (f := 34) rfl ?_); refine goesL_ (some 13) rfl rfl Try.func34 (by kernel_rfl) rfl #[.agg #[.int .i64 a0_0, .slice A0_1 l0_1.length c0_1], .int .i64 a1] rfl (by (try simp only [List.map_toArray, List.map_cons, List.map_nil]); first | done | rfl | (simp only [List.length_drop, List.length_take]; rfl)) ?_; (with_reducible refine (post_find.calls k a0_0 _ _ l0_1 a1 t189 t190 _ ?side1 ?side2 A3.out).mono ?_); (case side1 => exact (Kd.C_below HR0_1.out HB.out)); (case side2 => exact HC0_1.out); rintro e w29 ⟨rfl, hb⟩; refine ⟨_, rfl, ?_⟩; replace BK187 := bl_ BK187 hb; replace BK188 := bl_ BK188 hb; replace HB := Aside0.mk (below_step (by repeat (with_reducible first | exact HB.out | apply pw_below_drewN | apply below_drew1 | refine below_set ?_ (Aside0.out (by assumption)))) hb); (try clear hb); (try clear hb2); (try clear hk); (try clear hi); have hcz30_0 : w29.cell? ⟨gb188, 0, none⟩ = some (.int .i64 0) := (blk_cell BK188.out 0).trans rfl; have hcz30_1 : w29.cell? ⟨gb188, 1, none⟩ = some (.slice none 0 0) := (blk_cell BK188.out 1).trans rfl; have hfz30_0 := blk_frozen BK188.out 0; have hfz30_1 := blk_frozen BK188.out 1))
    refine bodyPost_ret (results_ctt rfl _ _ gb188 24 #[.int .i64 0, .slice none 0 0] (0, 0) _ rfl (by refine blk_put (cs := #[.int .i64 0, .slice none 0 0]) ?_ 1 _ rfl; refine blk_put (cs := #[.int .i64 0, .slice none 0 0]) ?_ 0 _ rfl; exact BK188.out) Try.underlying24 rfl (by kernel_rfl)) rfl ?_
    exact ⟨_, by first | rfl | (simp [errW_none, errW_some] <;> rfl) | (simp [*, errW_none, errW_some] <;> rfl), by first | exact Kd.R_nil _ _ _ _ _ | exact Kd.N_nil _ _ _ _ _ | exact Kd.V_nil _ _ _ _ _ | exact Kd.Q_nil _ _ _ _ _ | exact Kd.S_nil _ _ _ _ _, by repeat (with_reducible first | exact HB.out | apply pw_below_drewN | apply below_drew1 | refine below_set ?_ (Aside0.out (by assumption)))⟩

end Go.Proofs.Ytofbkpdpgmjllaa.F
