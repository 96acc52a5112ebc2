-- Written by a program of this session (xprint.py), out of the translation and of contracts proved by hand.
import Derived.Test.YtofbkpdpgmjllaaF0
import Derived.Test.YtofbkpdpgmjllaaF3
import Derived.Test.YtofbkpdpgmjllaaF4
import Derived.Test.YtofbkpdpgmjllaaF7
import Derived.Test.YtofbkpdpgmjllaaF8
import Derived.Test.YtofbkpdpgmjllaaF10
import Derived.Test.YtofbkpdpgmjllaaF11
import Derived.Test.YtofbkpdpgmjllaaF12
import Derived.Test.YtofbkpdpgmjllaaF13
import Derived.Test.YtofbkpdpgmjllaaF14
import Derived.Test.YtofbkpdpgmjllaaF15
import Derived.Test.YtofbkpdpgmjllaaF16
import Derived.Test.YtofbkpdpgmjllaaF17
import Derived.Test.YtofbkpdpgmjllaaF18
namespace Go.Proofs.Ytofbkpdpgmjllaa.F
open Go.RowKit Go.Proofs.YtofbkpdpgmjllaaV.PrintWords Go.Proofs.YtofbkpdpgmjllaaV.PrintLast Go.Proofs.YtofbkpdpgmjllaaV.PrintMore
attribute [local go_sem] max2_int min2_int max_two min_two max_three min_three max_four min_four   -- for this text's walks alone
set_option linter.unusedVariables false
set_option linter.unusedSimpArgs false

set_option maxHeartbeats 8000000 in
set_option maxRecDepth 100000 in
theorem watchmanlaw21_PostDoes.calls (k : Nat) (a0_0 : Int) (A0_1 : Option Addr) (c0_1 : Nat) (l0_1 : List (S35)) (a1 : Int) (a2 : Int) (a3 : Int) (A4 : Option Addr) (c4 : Nat) (l4 : List ByteArray) (A5 : Option Addr) (c5 : Nat) (l5 : List Int) (r : Bool) (w : World) (hr0_1 : Kd.C k35 w A0_1 l0_1.length l0_1) (hc0_1 : l0_1.length ≤ c0_1) (hr4 : Kd.C Kd.string w A4 l4.length l4) (hc4 : l4.length ≤ c4) (hr5 : Kd.C (Kd.int .i64) w A5 l5.length l5) (hc5 : l5.length ≤ c5) (h : watchmanlaw21_PostDoes.f k a0_0 l0_1 a1 a2 a3 l4 l5 = some r) :
    Calls Try.prog 3 #[.agg #[.int .i64 a0_0, .slice A0_1 l0_1.length c0_1], .int .i64 a1, .int .i64 a2, .int .i64 a3, .slice A4 l4.length c4, .slice A5 l5.length c5] w fun e w' => e = .returned (.bool r) ∧ Below w.heap.size w w' := by
  have hu24 := Try.underlying24
  have hu35 := Try.underlying35
  have HR0_1 := Aside0.mk hr0_1
  have HC0_1 := Aside0.mk hc0_1
  clear hr0_1 hc0_1
  have HR4 := Aside0.mk hr4
  have HC4 := Aside0.mk hc4
  clear hr4 hc4
  have HR5 := Aside0.mk hr5
  have HC5 := Aside0.mk hc5
  clear hr5 hc5
  have HB := Aside0.mk (Below.refl w.heap.size w)
  have H : ((watchmanlaw21_far.f k a0_0 l0_1 l4).bind fun t301 => (if t301 = true then (watchmanlaw21_PostDoes.j0 k a1 a2 a3 l4 l5 true a0_0 l0_1) else (watchmanlaw21_PostDoes.j0 k a1 a2 a3 l4 l5 (decide ((l5.length : Int) > 60)) a0_0 l0_1))) = some r := h
  clear h
  have HC7 := Aside0.mk H
  clear H
  go_enter Try.func3, Try.ntmps3
  go_upto_region 1 with (first | ((with_reducible refine gate_dst (N := 6) rfl ?_); (try (refine gate_guard (by rfl) ?_; dsimp only)); refine box_event ?hg (N := 6) ?hd (cs := #[.int .i64 a0_0, .slice A0_1 l0_1.length c0_1]) (t := 24) ?hr ?_; (case hd => rfl); (case hg => rfl); (case hr => first | (go_simp; done) | (go_simp; rfl)); intro gb300 hg w8 hbox hb; have BK300 := Aside0.mk (hbox); have GW300 := Aside0.mk ((by rw [hg]; exact (below_size HB.out) : w.heap.size ≤ gb300)); have GE300 := Aside0.mk ((by rw [hg]; exact (below_size HB.out) : w.heap.size ≤ gb300)); replace HB := Aside0.mk (below_step HB.out hb); clear hb hbox hg))
  (try simp only [Act.put, List.setIfInBounds_toArray, List.set_cons_zero, List.set_cons_succ])
  go_cut [45] (fun v45 wc => ∃ (kq : Nat) (x45_6 : Bool), v45 = .bool x45_6 ∧ Aside0 (watchmanlaw21_PostDoes.j0 kq a1 a2 a3 l4 l5 x45_6 a0_0 l0_1 = some r) ∧ Aside0 (kq ≤ k) ∧ Aside0 (wc.heap[gb300]? = some (.cells #[.int .i64 a0_0, (.slice A0_1 l0_1.length c0_1)] 24 (0, 0))) ∧ Aside0 (Below w.heap.size w wc))
  case first =>
    have H := HC7.out
    clear HC7
    replace H := Option.bind_eq_some_iff.mp H
    obtain ⟨t301, A90, H⟩ := H
    replace H : (if t301 = true then (watchmanlaw21_PostDoes.j0 k a1 a2 a3 l4 l5 true a0_0 l0_1) else (watchmanlaw21_PostDoes.j0 k a1 a2 a3 l4 l5 (decide ((l5.length : Int) > 60)) a0_0 l0_1)) = some r := H
    have A9 := Aside0.mk A90
    clear A90
    by_cases c10 : t301 = true
    · subst c10
      have H1 : (watchmanlaw21_PostDoes.j0 k a1 a2 a3 l4 l5 true a0_0 l0_1) = some r := by rw [if_pos rfl] at H; exact H
      clear H
      have H := H1
      clear H1
      have H' := Aside0.mk H
      clear H
      have hcz11_0 : w8.cell? ⟨gb300, 0, none⟩ = some (.int .i64 a0_0) := (blk_cell BK300.out 0).trans rfl
      have hcz11_1 : w8.cell? ⟨gb300, 1, none⟩ = some (.slice A0_1 l0_1.length c0_1) := (blk_cell BK300.out 1).trans rfl
      go_wp2_with (first | ((with_reducible refine gate_callee (f := 8) rfl ?_); refine goesL_ (some 40) rfl rfl Try.func8 (by kernel_rfl) rfl #[.agg #[.int .i64 a0_0, .slice A0_1 l0_1.length c0_1], .slice A4 l4.length c4] rfl (by (try simp only [List.map_toArray, List.map_cons, List.map_nil]); first | done | rfl | (simp only [List.length_drop, List.length_take]; rfl)) ?_; (with_reducible refine (watchmanlaw21_far.calls k a0_0 _ _ l0_1 _ _ l4 true _ ?side1 ?side2 ?side3 ?side4 A9.out).mono ?_); (case side1 => exact (Kd.C_below HR0_1.out HB.out)); (case side2 => exact HC0_1.out); (case side3 => exact (Kd.C_below HR4.out HB.out)); (case side4 => exact HC4.out); rintro e w12 ⟨rfl, hb⟩; refine ⟨_, rfl, ?_⟩; replace BK300 := bl_ BK300 hb; replace HB := Aside0.mk (below_step (by repeat (with_reducible first | exact HB.out | apply pw_below_drewN | apply below_drew1 | refine below_set ?_ GE300.out)) hb); (try clear hb); (try clear hb2); (try clear hk); (try clear hi)))
      go_meet
      case rel => exact ⟨_, (true), (by first | rfl | (simp; done) | (simp [*]; done)), H', ⟨by first | omega | exact Nat.le_refl _⟩, ⟨by (with_reducible repeat (first | refine blk_drewN ?_ _ | refine blk_drew ?_ | refine blk_alloc ?_ _)); exact BK300.out⟩, ⟨by repeat (with_reducible first | exact HB.out | apply pw_below_drewN | apply below_drew1 | refine below_set ?_ GE300.out)⟩⟩
      all_goals contradiction
    · replace c10 := Bool.eq_false_iff.mpr c10
      subst c10
      have H1 : (watchmanlaw21_PostDoes.j0 k a1 a2 a3 l4 l5 (decide ((l5.length : Int) > 60)) a0_0 l0_1) = some r := by rw [if_neg (show ¬ (false = true) by decide)] at H; exact H
      clear H
      have H := H1
      clear H1
      have H' := Aside0.mk H
      clear H
      have hcz13_0 : w8.cell? ⟨gb300, 0, none⟩ = some (.int .i64 a0_0) := (blk_cell BK300.out 0).trans rfl
      have hcz13_1 : w8.cell? ⟨gb300, 1, none⟩ = some (.slice A0_1 l0_1.length c0_1) := (blk_cell BK300.out 1).trans rfl
      go_wp2_with (first | ((with_reducible refine gate_callee (f := 8) rfl ?_); refine goesL_ (some 40) rfl rfl Try.func8 (by kernel_rfl) rfl #[.agg #[.int .i64 a0_0, .slice A0_1 l0_1.length c0_1], .slice A4 l4.length c4] rfl (by (try simp only [List.map_toArray, List.map_cons, List.map_nil]); first | done | rfl | (simp only [List.length_drop, List.length_take]; rfl)) ?_; (with_reducible refine (watchmanlaw21_far.calls k a0_0 _ _ l0_1 _ _ l4 false _ ?side1 ?side2 ?side3 ?side4 A9.out).mono ?_); (case side1 => exact (Kd.C_below HR0_1.out HB.out)); (case side2 => exact HC0_1.out); (case side3 => exact (Kd.C_below HR4.out HB.out)); (case side4 => exact HC4.out); rintro e w14 ⟨rfl, hb⟩; refine ⟨_, rfl, ?_⟩; replace BK300 := bl_ BK300 hb; replace HB := Aside0.mk (below_step (by repeat (with_reducible first | exact HB.out | apply pw_below_drewN | apply below_drew1 | refine below_set ?_ GE300.out)) hb); (try clear hb); (try clear hb2); (try clear hk); (try clear hi)))
      go_meet
      case rel => exact ⟨_, (decide ((l5.length : Int) > 60)), (by first | rfl | (simp; done) | (simp [*]; done)), H', ⟨by first | omega | exact Nat.le_refl _⟩, ⟨by (with_reducible repeat (first | refine blk_drewN ?_ _ | refine blk_drew ?_ | refine blk_alloc ?_ _)); exact BK300.out⟩, ⟨by repeat (with_reducible first | exact HB.out | apply pw_below_drewN | apply below_drew1 | refine below_set ?_ GE300.out)⟩⟩
      all_goals contradiction
  case rest =>
    clear HC7
    try clear c1
    try clear p2
    try clear c3
    try clear c4
    try clear c5
    try clear c8
    try clear c10
    try clear hcz11_0
    try clear hcz11_1
    try clear hcz13_0
    try clear hcz13_1
    try clear hfz11_0
    try clear hfz11_1
    try clear hfz13_0
    try clear hfz13_1
    obtain ⟨kq, x45_6, rfl, HA, HJ6, BK300, HB⟩ := hcut
    cases kq with
    | zero => exact absurd HA.out (by simp [watchmanlaw21_PostDoes.j0])
    | succ kj6 =>
      have H := HA.out
      clear HA
      simp only [watchmanlaw21_PostDoes.j0] at H
      by_cases c15 : x45_6 = true
      · subst c15
        have H1 : (some true) = some r := by rw [if_pos rfl] at H; exact H
        clear H
        have H := H1
        clear H1
        obtain rfl := Option.some.inj H
        go_wp2
        go_ret
        exact ⟨by first | rfl | (simp [errW_none, errW_some] <;> rfl) | (simp [*, errW_none, errW_some] <;> rfl), by repeat (with_reducible first | exact HB.out | apply pw_below_drewN | apply below_drew1 | refine below_set ?_ GE300.out)⟩
      · replace c15 := Bool.eq_false_iff.mpr c15
        subst c15
        have H1 : ((watchmanref21_Own.f l0_1).bind fun t302 => ((post_Send.f kj6 a0_0 l0_1 a1 a2 l4).bind fun bt306 => ((watchmanref01_OwnTexts.f l4).bind fun t313 => ((watchmanref21_Send.f kj6 a0_0 t302 a1 a2 t313).bind fun bt316 => ((post_Take.f kj6 a0_0 l0_1 a3).bind fun bt323 => ((watchmanref21_Take.f kj6 a0_0 t302 a3).bind fun bt334 => ((post_Again.f kj6 a0_0 l0_1 a3).bind fun bt345 => ((watchmanref21_Again.f kj6 a0_0 t302 a3).bind fun bt352 => ((post_Only.f kj6 a0_0 l0_1 l5).bind fun bt359 => ((watchmanref21_Only.f kj6 a0_0 t302 l5).bind fun bt365 => ((post_To.f a0_0 l0_1 a2).bind fun t371 => ((watchmanref21_Same.f kj6 bt306.1 bt306.2.1 bt316.1 bt316.2.1).bind fun t374 => (if t374 = true then (if bt306.2.2.1 = bt316.2.2.1 then (if bt306.2.2.2 = bt316.2.2.2 then ((watchmanref21_Same.f kj6 bt323.1 bt323.2.1 bt334.1 bt334.2.1).bind fun t375 => (if t375 = true then (if (bt323.2.2.1 == bt334.2.2.1 && (bt323.2.2.2.1 == bt334.2.2.2.1 && (bt323.2.2.2.2.1 == bt334.2.2.2.2.1 && (bt323.2.2.2.2.2.1.toList == bt334.2.2.2.2.2.1.toList)))) = true then (if bt323.2.2.2.2.2.2 = bt334.2.2.2.2.2.2 then ((watchmanref21_Same.f kj6 bt345.1 bt345.2.1 bt352.1 bt352.2.1).bind fun t376 => (if t376 = true then (if bt345.2.2.1 = bt352.2.2.1 then (if bt345.2.2.2 = bt352.2.2.2 then ((watchmanref21_Same.f kj6 bt359.1 bt359.2.1 bt365.1 bt365.2.1).bind fun t377 => (if t377 = true then (if bt359.2.2 = bt365.2.2 then ((watchmanref21_To.f kj6 a0_0 t302 a2).bind fun t378 => ((watchmanref21_SameLetters.f kj6 t371 t378).bind fun t381 => (watchmanlaw21_PostDoes.j1 kj6 t371 t381 a0_0 l0_1 a0_0 t302 bt306.1 bt306.2.1 bt323.1 bt323.2.1 bt345.1 bt345.2.1 bt359.1 bt359.2.1))) else (none)) else (none))) else (none)) else (none)) else (none))) else (none)) else (none)) else (none))) else (none)) else (none)) else (none)))))))))))))) = some r := by rw [if_neg (show ¬ (false = true) by decide)] at H; exact H
        clear H
        have H := H1
        clear H1
        replace H := Option.bind_eq_some_iff.mp H
        obtain ⟨t302, A160, H⟩ := H
        replace H : ((post_Send.f kj6 a0_0 l0_1 a1 a2 l4).bind fun bt306 => ((watchmanref01_OwnTexts.f l4).bind fun t313 => ((watchmanref21_Send.f kj6 a0_0 t302 a1 a2 t313).bind fun bt316 => ((post_Take.f kj6 a0_0 l0_1 a3).bind fun bt323 => ((watchmanref21_Take.f kj6 a0_0 t302 a3).bind fun bt334 => ((post_Again.f kj6 a0_0 l0_1 a3).bind fun bt345 => ((watchmanref21_Again.f kj6 a0_0 t302 a3).bind fun bt352 => ((post_Only.f kj6 a0_0 l0_1 l5).bind fun bt359 => ((watchmanref21_Only.f kj6 a0_0 t302 l5).bind fun bt365 => ((post_To.f a0_0 l0_1 a2).bind fun t371 => ((watchmanref21_Same.f kj6 bt306.1 bt306.2.1 bt316.1 bt316.2.1).bind fun t374 => (if t374 = true then (if bt306.2.2.1 = bt316.2.2.1 then (if bt306.2.2.2 = bt316.2.2.2 then ((watchmanref21_Same.f kj6 bt323.1 bt323.2.1 bt334.1 bt334.2.1).bind fun t375 => (if t375 = true then (if (bt323.2.2.1 == bt334.2.2.1 && (bt323.2.2.2.1 == bt334.2.2.2.1 && (bt323.2.2.2.2.1 == bt334.2.2.2.2.1 && (bt323.2.2.2.2.2.1.toList == bt334.2.2.2.2.2.1.toList)))) = true then (if bt323.2.2.2.2.2.2 = bt334.2.2.2.2.2.2 then ((watchmanref21_Same.f kj6 bt345.1 bt345.2.1 bt352.1 bt352.2.1).bind fun t376 => (if t376 = true then (if bt345.2.2.1 = bt352.2.2.1 then (if bt345.2.2.2 = bt352.2.2.2 then ((watchmanref21_Same.f kj6 bt359.1 bt359.2.1 bt365.1 bt365.2.1).bind fun t377 => (if t377 = true then (if bt359.2.2 = bt365.2.2 then ((watchmanref21_To.f kj6 a0_0 t302 a2).bind fun t378 => ((watchmanref21_SameLetters.f kj6 t371 t378).bind fun t381 => (watchmanlaw21_PostDoes.j1 kj6 t371 t381 a0_0 l0_1 a0_0 t302 bt306.1 bt306.2.1 bt323.1 bt323.2.1 bt345.1 bt345.2.1 bt359.1 bt359.2.1))) else (none)) else (none))) else (none)) else (none)) else (none))) else (none)) else (none)) else (none))) else (none)) else (none)) else (none))))))))))))) = some r := H
        have A16 := Aside0.mk A160
        clear A160
        replace H := Option.bind_eq_some_iff.mp H
        obtain ⟨⟨t306, t307, t310, t311⟩, A170, H⟩ := H
        replace H : ((watchmanref01_OwnTexts.f l4).bind fun t313 => ((watchmanref21_Send.f kj6 a0_0 t302 a1 a2 t313).bind fun bt316 => ((post_Take.f kj6 a0_0 l0_1 a3).bind fun bt323 => ((watchmanref21_Take.f kj6 a0_0 t302 a3).bind fun bt334 => ((post_Again.f kj6 a0_0 l0_1 a3).bind fun bt345 => ((watchmanref21_Again.f kj6 a0_0 t302 a3).bind fun bt352 => ((post_Only.f kj6 a0_0 l0_1 l5).bind fun bt359 => ((watchmanref21_Only.f kj6 a0_0 t302 l5).bind fun bt365 => ((post_To.f a0_0 l0_1 a2).bind fun t371 => ((watchmanref21_Same.f kj6 t306 t307 bt316.1 bt316.2.1).bind fun t374 => (if t374 = true then (if t310 = bt316.2.2.1 then (if t311 = bt316.2.2.2 then ((watchmanref21_Same.f kj6 bt323.1 bt323.2.1 bt334.1 bt334.2.1).bind fun t375 => (if t375 = true then (if (bt323.2.2.1 == bt334.2.2.1 && (bt323.2.2.2.1 == bt334.2.2.2.1 && (bt323.2.2.2.2.1 == bt334.2.2.2.2.1 && (bt323.2.2.2.2.2.1.toList == bt334.2.2.2.2.2.1.toList)))) = true then (if bt323.2.2.2.2.2.2 = bt334.2.2.2.2.2.2 then ((watchmanref21_Same.f kj6 bt345.1 bt345.2.1 bt352.1 bt352.2.1).bind fun t376 => (if t376 = true then (if bt345.2.2.1 = bt352.2.2.1 then (if bt345.2.2.2 = bt352.2.2.2 then ((watchmanref21_Same.f kj6 bt359.1 bt359.2.1 bt365.1 bt365.2.1).bind fun t377 => (if t377 = true then (if bt359.2.2 = bt365.2.2 then ((watchmanref21_To.f kj6 a0_0 t302 a2).bind fun t378 => ((watchmanref21_SameLetters.f kj6 t371 t378).bind fun t381 => (watchmanlaw21_PostDoes.j1 kj6 t371 t381 a0_0 l0_1 a0_0 t302 t306 t307 bt323.1 bt323.2.1 bt345.1 bt345.2.1 bt359.1 bt359.2.1))) else (none)) else (none))) else (none)) else (none)) else (none))) else (none)) else (none)) else (none))) else (none)) else (none)) else (none)))))))))))) = some r := H
        have A17 := Aside0.mk A170
        clear A170
        replace H := Option.bind_eq_some_iff.mp H
        obtain ⟨t313, A180, H⟩ := H
        replace H : ((watchmanref21_Send.f kj6 a0_0 t302 a1 a2 t313).bind fun bt316 => ((post_Take.f kj6 a0_0 l0_1 a3).bind fun bt323 => ((watchmanref21_Take.f kj6 a0_0 t302 a3).bind fun bt334 => ((post_Again.f kj6 a0_0 l0_1 a3).bind fun bt345 => ((watchmanref21_Again.f kj6 a0_0 t302 a3).bind fun bt352 => ((post_Only.f kj6 a0_0 l0_1 l5).bind fun bt359 => ((watchmanref21_Only.f kj6 a0_0 t302 l5).bind fun bt365 => ((post_To.f a0_0 l0_1 a2).bind fun t371 => ((watchmanref21_Same.f kj6 t306 t307 bt316.1 bt316.2.1).bind fun t374 => (if t374 = true then (if t310 = bt316.2.2.1 then (if t311 = bt316.2.2.2 then ((watchmanref21_Same.f kj6 bt323.1 bt323.2.1 bt334.1 bt334.2.1).bind fun t375 => (if t375 = true then (if (bt323.2.2.1 == bt334.2.2.1 && (bt323.2.2.2.1 == bt334.2.2.2.1 && (bt323.2.2.2.2.1 == bt334.2.2.2.2.1 && (bt323.2.2.2.2.2.1.toList == bt334.2.2.2.2.2.1.toList)))) = true then (if bt323.2.2.2.2.2.2 = bt334.2.2.2.2.2.2 then ((watchmanref21_Same.f kj6 bt345.1 bt345.2.1 bt352.1 bt352.2.1).bind fun t376 => (if t376 = true then (if bt345.2.2.1 = bt352.2.2.1 then (if bt345.2.2.2 = bt352.2.2.2 then ((watchmanref21_Same.f kj6 bt359.1 bt359.2.1 bt365.1 bt365.2.1).bind fun t377 => (if t377 = true then (if bt359.2.2 = bt365.2.2 then ((watchmanref21_To.f kj6 a0_0 t302 a2).bind fun t378 => ((watchmanref21_SameLetters.f kj6 t371 t378).bind fun t381 => (watchmanlaw21_PostDoes.j1 kj6 t371 t381 a0_0 l0_1 a0_0 t302 t306 t307 bt323.1 bt323.2.1 bt345.1 bt345.2.1 bt359.1 bt359.2.1))) else (none)) else (none))) else (none)) else (none)) else (none))) else (none)) else (none)) else (none))) else (none)) else (none)) else (none))))))))))) = some r := H
        have A18 := Aside0.mk A180
        clear A180
        replace H := Option.bind_eq_some_iff.mp H
        obtain ⟨⟨t316, t317, t320, t321⟩, A190, H⟩ := H
        replace H : ((post_Take.f kj6 a0_0 l0_1 a3).bind fun bt323 => ((watchmanref21_Take.f kj6 a0_0 t302 a3).bind fun bt334 => ((post_Again.f kj6 a0_0 l0_1 a3).bind fun bt345 => ((watchmanref21_Again.f kj6 a0_0 t302 a3).bind fun bt352 => ((post_Only.f kj6 a0_0 l0_1 l5).bind fun bt359 => ((watchmanref21_Only.f kj6 a0_0 t302 l5).bind fun bt365 => ((post_To.f a0_0 l0_1 a2).bind fun t371 => ((watchmanref21_Same.f kj6 t306 t307 t316 t317).bind fun t374 => (if t374 = true then (if t310 = t320 then (if t311 = t321 then ((watchmanref21_Same.f kj6 bt323.1 bt323.2.1 bt334.1 bt334.2.1).bind fun t375 => (if t375 = true then (if (bt323.2.2.1 == bt334.2.2.1 && (bt323.2.2.2.1 == bt334.2.2.2.1 && (bt323.2.2.2.2.1 == bt334.2.2.2.2.1 && (bt323.2.2.2.2.2.1.toList == bt334.2.2.2.2.2.1.toList)))) = true then (if bt323.2.2.2.2.2.2 = bt334.2.2.2.2.2.2 then ((watchmanref21_Same.f kj6 bt345.1 bt345.2.1 bt352.1 bt352.2.1).bind fun t376 => (if t376 = true then (if bt345.2.2.1 = bt352.2.2.1 then (if bt345.2.2.2 = bt352.2.2.2 then ((watchmanref21_Same.f kj6 bt359.1 bt359.2.1 bt365.1 bt365.2.1).bind fun t377 => (if t377 = true then (if bt359.2.2 = bt365.2.2 then ((watchmanref21_To.f kj6 a0_0 t302 a2).bind fun t378 => ((watchmanref21_SameLetters.f kj6 t371 t378).bind fun t381 => (watchmanlaw21_PostDoes.j1 kj6 t371 t381 a0_0 l0_1 a0_0 t302 t306 t307 bt323.1 bt323.2.1 bt345.1 bt345.2.1 bt359.1 bt359.2.1))) else (none)) else (none))) else (none)) else (none)) else (none))) else (none)) else (none)) else (none))) else (none)) else (none)) else (none)))))))))) = some r := H
        have A19 := Aside0.mk A190
        clear A190
        replace H := Option.bind_eq_some_iff.mp H
        obtain ⟨⟨t323, t324, t327, t328, t329, t330, t331⟩, A200, H⟩ := H
        replace H : ((watchmanref21_Take.f kj6 a0_0 t302 a3).bind fun bt334 => ((post_Again.f kj6 a0_0 l0_1 a3).bind fun bt345 => ((watchmanref21_Again.f kj6 a0_0 t302 a3).bind fun bt352 => ((post_Only.f kj6 a0_0 l0_1 l5).bind fun bt359 => ((watchmanref21_Only.f kj6 a0_0 t302 l5).bind fun bt365 => ((post_To.f a0_0 l0_1 a2).bind fun t371 => ((watchmanref21_Same.f kj6 t306 t307 t316 t317).bind fun t374 => (if t374 = true then (if t310 = t320 then (if t311 = t321 then ((watchmanref21_Same.f kj6 t323 t324 bt334.1 bt334.2.1).bind fun t375 => (if t375 = true then (if (t327 == bt334.2.2.1 && (t328 == bt334.2.2.2.1 && (t329 == bt334.2.2.2.2.1 && (t330.toList == bt334.2.2.2.2.2.1.toList)))) = true then (if t331 = bt334.2.2.2.2.2.2 then ((watchmanref21_Same.f kj6 bt345.1 bt345.2.1 bt352.1 bt352.2.1).bind fun t376 => (if t376 = true then (if bt345.2.2.1 = bt352.2.2.1 then (if bt345.2.2.2 = bt352.2.2.2 then ((watchmanref21_Same.f kj6 bt359.1 bt359.2.1 bt365.1 bt365.2.1).bind fun t377 => (if t377 = true then (if bt359.2.2 = bt365.2.2 then ((watchmanref21_To.f kj6 a0_0 t302 a2).bind fun t378 => ((watchmanref21_SameLetters.f kj6 t371 t378).bind fun t381 => (watchmanlaw21_PostDoes.j1 kj6 t371 t381 a0_0 l0_1 a0_0 t302 t306 t307 t323 t324 bt345.1 bt345.2.1 bt359.1 bt359.2.1))) else (none)) else (none))) else (none)) else (none)) else (none))) else (none)) else (none)) else (none))) else (none)) else (none)) else (none))))))))) = some r := H
        have A20 := Aside0.mk A200
        clear A200
        replace H := Option.bind_eq_some_iff.mp H
        obtain ⟨⟨t334, t335, t338, t339, t340, t341, t342⟩, A210, H⟩ := H
        replace H : ((post_Again.f kj6 a0_0 l0_1 a3).bind fun bt345 => ((watchmanref21_Again.f kj6 a0_0 t302 a3).bind fun bt352 => ((post_Only.f kj6 a0_0 l0_1 l5).bind fun bt359 => ((watchmanref21_Only.f kj6 a0_0 t302 l5).bind fun bt365 => ((post_To.f a0_0 l0_1 a2).bind fun t371 => ((watchmanref21_Same.f kj6 t306 t307 t316 t317).bind fun t374 => (if t374 = true then (if t310 = t320 then (if t311 = t321 then ((watchmanref21_Same.f kj6 t323 t324 t334 t335).bind fun t375 => (if t375 = true then (if (t327 == t338 && (t328 == t339 && (t329 == t340 && (t330.toList == t341.toList)))) = true then (if t331 = t342 then ((watchmanref21_Same.f kj6 bt345.1 bt345.2.1 bt352.1 bt352.2.1).bind fun t376 => (if t376 = true then (if bt345.2.2.1 = bt352.2.2.1 then (if bt345.2.2.2 = bt352.2.2.2 then ((watchmanref21_Same.f kj6 bt359.1 bt359.2.1 bt365.1 bt365.2.1).bind fun t377 => (if t377 = true then (if bt359.2.2 = bt365.2.2 then ((watchmanref21_To.f kj6 a0_0 t302 a2).bind fun t378 => ((watchmanref21_SameLetters.f kj6 t371 t378).bind fun t381 => (watchmanlaw21_PostDoes.j1 kj6 t371 t381 a0_0 l0_1 a0_0 t302 t306 t307 t323 t324 bt345.1 bt345.2.1 bt359.1 bt359.2.1))) else (none)) else (none))) else (none)) else (none)) else (none))) else (none)) else (none)) else (none))) else (none)) else (none)) else (none)))))))) = some r := H
        have A21 := Aside0.mk A210
        clear A210
        replace H := Option.bind_eq_some_iff.mp H
        obtain ⟨⟨t345, t346, t349, t350⟩, A220, H⟩ := H
        replace H : ((watchmanref21_Again.f kj6 a0_0 t302 a3).bind fun bt352 => ((post_Only.f kj6 a0_0 l0_1 l5).bind fun bt359 => ((watchmanref21_Only.f kj6 a0_0 t302 l5).bind fun bt365 => ((post_To.f a0_0 l0_1 a2).bind fun t371 => ((watchmanref21_Same.f kj6 t306 t307 t316 t317).bind fun t374 => (if t374 = true then (if t310 = t320 then (if t311 = t321 then ((watchmanref21_Same.f kj6 t323 t324 t334 t335).bind fun t375 => (if t375 = true then (if (t327 == t338 && (t328 == t339 && (t329 == t340 && (t330.toList == t341.toList)))) = true then (if t331 = t342 then ((watchmanref21_Same.f kj6 t345 t346 bt352.1 bt352.2.1).bind fun t376 => (if t376 = true then (if t349 = bt352.2.2.1 then (if t350 = bt352.2.2.2 then ((watchmanref21_Same.f kj6 bt359.1 bt359.2.1 bt365.1 bt365.2.1).bind fun t377 => (if t377 = true then (if bt359.2.2 = bt365.2.2 then ((watchmanref21_To.f kj6 a0_0 t302 a2).bind fun t378 => ((watchmanref21_SameLetters.f kj6 t371 t378).bind fun t381 => (watchmanlaw21_PostDoes.j1 kj6 t371 t381 a0_0 l0_1 a0_0 t302 t306 t307 t323 t324 t345 t346 bt359.1 bt359.2.1))) else (none)) else (none))) else (none)) else (none)) else (none))) else (none)) else (none)) else (none))) else (none)) else (none)) else (none))))))) = some r := H
        have A22 := Aside0.mk A220
        clear A220
        replace H := Option.bind_eq_some_iff.mp H
        obtain ⟨⟨t352, t353, t356, t357⟩, A230, H⟩ := H
        replace H : ((post_Only.f kj6 a0_0 l0_1 l5).bind fun bt359 => ((watchmanref21_Only.f kj6 a0_0 t302 l5).bind fun bt365 => ((post_To.f a0_0 l0_1 a2).bind fun t371 => ((watchmanref21_Same.f kj6 t306 t307 t316 t317).bind fun t374 => (if t374 = true then (if t310 = t320 then (if t311 = t321 then ((watchmanref21_Same.f kj6 t323 t324 t334 t335).bind fun t375 => (if t375 = true then (if (t327 == t338 && (t328 == t339 && (t329 == t340 && (t330.toList == t341.toList)))) = true then (if t331 = t342 then ((watchmanref21_Same.f kj6 t345 t346 t352 t353).bind fun t376 => (if t376 = true then (if t349 = t356 then (if t350 = t357 then ((watchmanref21_Same.f kj6 bt359.1 bt359.2.1 bt365.1 bt365.2.1).bind fun t377 => (if t377 = true then (if bt359.2.2 = bt365.2.2 then ((watchmanref21_To.f kj6 a0_0 t302 a2).bind fun t378 => ((watchmanref21_SameLetters.f kj6 t371 t378).bind fun t381 => (watchmanlaw21_PostDoes.j1 kj6 t371 t381 a0_0 l0_1 a0_0 t302 t306 t307 t323 t324 t345 t346 bt359.1 bt359.2.1))) else (none)) else (none))) else (none)) else (none)) else (none))) else (none)) else (none)) else (none))) else (none)) else (none)) else (none)))))) = some r := H
        have A23 := Aside0.mk A230
        clear A230
        replace H := Option.bind_eq_some_iff.mp H
        obtain ⟨⟨t359, t360, t363⟩, A240, H⟩ := H
        replace H : ((watchmanref21_Only.f kj6 a0_0 t302 l5).bind fun bt365 => ((post_To.f a0_0 l0_1 a2).bind fun t371 => ((watchmanref21_Same.f kj6 t306 t307 t316 t317).bind fun t374 => (if t374 = true then (if t310 = t320 then (if t311 = t321 then ((watchmanref21_Same.f kj6 t323 t324 t334 t335).bind fun t375 => (if t375 = true then (if (t327 == t338 && (t328 == t339 && (t329 == t340 && (t330.toList == t341.toList)))) = true then (if t331 = t342 then ((watchmanref21_Same.f kj6 t345 t346 t352 t353).bind fun t376 => (if t376 = true then (if t349 = t356 then (if t350 = t357 then ((watchmanref21_Same.f kj6 t359 t360 bt365.1 bt365.2.1).bind fun t377 => (if t377 = true then (if t363 = bt365.2.2 then ((watchmanref21_To.f kj6 a0_0 t302 a2).bind fun t378 => ((watchmanref21_SameLetters.f kj6 t371 t378).bind fun t381 => (watchmanlaw21_PostDoes.j1 kj6 t371 t381 a0_0 l0_1 a0_0 t302 t306 t307 t323 t324 t345 t346 t359 t360))) else (none)) else (none))) else (none)) else (none)) else (none))) else (none)) else (none)) else (none))) else (none)) else (none)) else (none))))) = some r := H
        have A24 := Aside0.mk A240
        clear A240
        replace H := Option.bind_eq_some_iff.mp H
        obtain ⟨⟨t365, t366, t369⟩, A250, H⟩ := H
        replace H : ((post_To.f a0_0 l0_1 a2).bind fun t371 => ((watchmanref21_Same.f kj6 t306 t307 t316 t317).bind fun t374 => (if t374 = true then (if t310 = t320 then (if t311 = t321 then ((watchmanref21_Same.f kj6 t323 t324 t334 t335).bind fun t375 => (if t375 = true then (if (t327 == t338 && (t328 == t339 && (t329 == t340 && (t330.toList == t341.toList)))) = true then (if t331 = t342 then ((watchmanref21_Same.f kj6 t345 t346 t352 t353).bind fun t376 => (if t376 = true then (if t349 = t356 then (if t350 = t357 then ((watchmanref21_Same.f kj6 t359 t360 t365 t366).bind fun t377 => (if t377 = true then (if t363 = t369 then ((watchmanref21_To.f kj6 a0_0 t302 a2).bind fun t378 => ((watchmanref21_SameLetters.f kj6 t371 t378).bind fun t381 => (watchmanlaw21_PostDoes.j1 kj6 t371 t381 a0_0 l0_1 a0_0 t302 t306 t307 t323 t324 t345 t346 t359 t360))) else (none)) else (none))) else (none)) else (none)) else (none))) else (none)) else (none)) else (none))) else (none)) else (none)) else (none)))) = some r := H
        have A25 := Aside0.mk A250
        clear A250
        replace H := Option.bind_eq_some_iff.mp H
        obtain ⟨t371, A260, H⟩ := H
        replace H : ((watchmanref21_Same.f kj6 t306 t307 t316 t317).bind fun t374 => (if t374 = true then (if t310 = t320 then (if t311 = t321 then ((watchmanref21_Same.f kj6 t323 t324 t334 t335).bind fun t375 => (if t375 = true then (if (t327 == t338 && (t328 == t339 && (t329 == t340 && (t330.toList == t341.toList)))) = true then (if t331 = t342 then ((watchmanref21_Same.f kj6 t345 t346 t352 t353).bind fun t376 => (if t376 = true then (if t349 = t356 then (if t350 = t357 then ((watchmanref21_Same.f kj6 t359 t360 t365 t366).bind fun t377 => (if t377 = true then (if t363 = t369 then ((watchmanref21_To.f kj6 a0_0 t302 a2).bind fun t378 => ((watchmanref21_SameLetters.f kj6 t371 t378).bind fun t381 => (watchmanlaw21_PostDoes.j1 kj6 t371 t381 a0_0 l0_1 a0_0 t302 t306 t307 t323 t324 t345 t346 t359 t360))) else (none)) else (none))) else (none)) else (none)) else (none))) else (none)) else (none)) else (none))) else (none)) else (none)) else (none))) = some r := H
        have A26 := Aside0.mk A260
        clear A260
        have HC27 := Aside0.mk H
        clear H
        try go_wp2
        replace BK300 := Aside0.mk (blk_drew BK300.out)
        replace HB := Aside0.mk (below_drew1 HB.out)
        refine start_ (n := 8) (S := fun w' => w'.cell? ⟨gb300, 0, none⟩ = some (.int .i64 a0_0) ∧ w'.cell? ⟨gb300, 1, none⟩ = some (.slice A0_1 l0_1.length c0_1)) (ds := []) #[false, false, false, false, false, false, false, false] (by kernel_rfl) rfl rfl ⟨(blk_cell BK300.out 0).trans rfl, (blk_cell BK300.out 1).trans rfl⟩ (fun hHeld => ?_); refine with_tabW watchmanlaw21_PostDoes.tab3 watchmanlaw21_PostDoes.bits3 (fun HT_ HW_ => ?_)
        generalize wc.drew = w28 at BK300 HB hHeld ⊢
        refine pure_ (i := 0) (N := some 46) (v := ?_) (a' := ?_) (dn_ 1 8) rfl rfl (any_of HT_.out (by kernel_rfl)) (fun _ _ _ h => h) (Or.inl ⟨by rfl, ?_⟩) ?_ ?_
        rotate_left
        · intro w'
          go_simp
          with_reducible rfl
        rotate_left; (simp only [Act.put, List.setIfInBounds_toArray, List.set_cons_zero, List.set_cons_succ, i64_w, i32_w]; rfl)
        refine pure_ (i := 2) (N := some 48) (v := ?_) (a' := ?_) #[true, false, true, false, false, false, false, false] rfl rfl (any_of HT_.out (by kernel_rfl)) (fun _ _ _ h => h) (Or.inl ⟨by rfl, ?_⟩) ?_ ?_
        rotate_left
        · intro w'
          go_simp
          with_reducible rfl
        rotate_left; (simp only [Act.put, List.setIfInBounds_toArray, List.set_cons_zero, List.set_cons_succ, i64_w, i32_w]; rfl)
        refine take_ (i := 1) (N := some 47) (v := ?_) (a' := ?_) (dn_ 3 8) rfl rfl (take_ofW HT_.out HW_.out (by kernel_rfl)) (fun _ _ _ h => h) (Or.inl ⟨by rfl, ?_⟩) hHeld ?_ ?_
        rotate_left
        · rintro w' ⟨s0, s1⟩
          go_simp
          with_reducible rfl
        rotate_left; (simp only [Act.put, List.setIfInBounds_toArray, List.set_cons_zero, List.set_cons_succ, i64_w, i32_w]; rfl)
        refine take_ (i := 3) (N := some 49) (v := ?_) (a' := ?_) (dn_ 4 8) rfl rfl (take_ofW HT_.out HW_.out (by kernel_rfl)) (fun _ _ _ h => h) (Or.inl ⟨by rfl, ?_⟩) hHeld ?_ ?_
        rotate_left
        · rintro w' ⟨s0, s1⟩
          go_simp
          with_reducible rfl
        rotate_left; (simp only [Act.put, List.setIfInBounds_toArray, List.set_cons_zero, List.set_cons_succ, i64_w, i32_w]; rfl)
        refine join_ (σ := Value × Nat) 1 (dn_ 7 8) (fun s_ => [(50, s_.1), (13, .pointer (some ⟨s_.2, 0, none⟩)), (51, .agg #[.int .i64 a0_0, s_.1])]) (fun s_ w' => (w'.cell? ⟨gb300, 0, none⟩ = some (.int .i64 a0_0) ∧ w'.cell? ⟨gb300, 1, none⟩ = some (.slice A0_1 l0_1.length c0_1)) ∧ (Kd.R k35 35 w' w.heap.size (fun _ => True) s_.1 t302) ∧ (w'.heap[gb300]? = some (.cells #[.int .i64 a0_0, .slice A0_1 l0_1.length c0_1] 24 (0, 0))) ∧ (w'.heap[s_.2]? = some (.cells #[.int .i64 0, .slice none 0 0] 24 (0, 0))) ∧ (w.heap.size ≤ s_.2) ∧ (w.heap.size ≤ s_.2) ∧ (gb300 ≠ s_.2) ∧ (s_.2 ≠ gb300) ∧ (Below w.heap.size w w')) ?_ ?_
        rotate_left
        · intro hCont
          refine two_ (i := 4) (j := 6) (Ni := some 50) (Nj := some 13) (dn_ 5 8) #[true, true, true, true, false, false, true, false] rfl rfl rfl rfl (two_of HT_.out (by kernel_rfl)) (by decide) (by decide) (fun K hK => ?_) (fun K hK => ?_)
          · skip
            refine goes_ Try.func9 (by kernel_rfl) rfl #[.slice A0_1 l0_1.length c0_1] (by rfl) rfl rfl (by (try simp only [List.map_toArray, List.map_cons, List.map_nil]); first | done | rfl | (simp only [List.length_drop, List.length_take]; rfl)) ?_
            with_reducible refine (watchmanref21_Own.calls _ _ l0_1 t302 _ ?side1 ?side2 A16.out).mono ?_
            (case side1 => exact (Kd.C_below HR0_1.out HB.out))
            (case side2 => exact HC0_1.out)
            rintro e w29 ⟨v303, rfl, ho0, hb⟩
            refine ⟨_, rfl, ?_⟩
            have HO304 := Aside0.mk (Kd.R_lower ho0 (below_size (by repeat (with_reducible first | exact HB.out | apply pw_below_drewN | apply below_drew1 | refine below_set ?_ GE300.out))))
            replace BK300 := bl_ BK300 hb
            replace HB := Aside0.mk (below_step (by repeat (with_reducible first | exact HB.out | apply pw_below_drewN | apply below_drew1 | refine below_set ?_ GE300.out)) hb)
            (try clear hb)
            (try clear hb2)
            (try clear hk)
            (try clear hi)
            (try clear ho0)
            obtain ⟨Ao30, co30, eo30⟩ := Kd.R_slice HO304.out
            (first | subst eo30 | (injection eo30 with f1_ f2_ f3_; have f4_ := f1_.symm; have f5_ := f3_.symm; clear f1_ f2_ f3_; subst f4_; subst f5_))
            refine hK.out _ _ ⟨(blk_cell BK300.out 0).trans rfl, (blk_cell BK300.out 1).trans rfl⟩ (fun hHeld => ?_)
            clear hK K
            refine norm_ (a' := ?_) ?_ ?_
            rotate_left
            · show Act.put _ (some 50) _ = _
              simp only [Act.put, List.setIfInBounds_toArray, List.set_cons_zero, List.set_cons_succ, i64_w, i32_w]
              rfl
            refine pure_ (i := 5) (N := some 51) (v := ?_) (a' := ?_) (dn_ 6 8) rfl rfl (any_of HT_.out (by kernel_rfl)) (fun _ _ _ h => h) (Or.inl ⟨by rfl, ?_⟩) ?_ ?_
            rotate_left
            · intro w'
              go_simp
              with_reducible rfl
            rotate_left; (simp only [Act.put, List.setIfInBounds_toArray, List.set_cons_zero, List.set_cons_succ, i64_w, i32_w]; rfl)
            refine one_ (i := 6) (N := some 13) (dn_ 7 8) rfl rfl (one_of HT_.out (by kernel_rfl)) (by decide) (fun K hK => ?_)
            refine box_step ?hg (N := 13) ?hd (cs := #[.int .i64 0, .slice none 0 0]) (t := 24) ?hr ?_; (case hd => rfl); (case hg => rfl); (case hr => first | (go_simp; done) | (go_simp; rfl))
            intro gb305 hg w31 hbox hb
            replace HO304 := rb_ HO304 hb
            have BK305 := Aside0.mk (hbox)
            have GW305 := Aside0.mk ((by rw [hg]; exact (below_size (by repeat (with_reducible first | exact HB.out | apply pw_below_drewN | apply below_drew1 | refine below_set ?_ GE300.out))) : w.heap.size ≤ gb305))
            have GE305 := Aside0.mk ((by rw [hg]; exact (below_size (by repeat (with_reducible first | exact HB.out | apply pw_below_drewN | apply below_drew1 | refine below_set ?_ GE300.out))) : w.heap.size ≤ gb305))
            replace HB := Aside0.mk (below_step (by repeat (with_reducible first | exact HB.out | apply pw_below_drewN | apply below_drew1 | refine below_set ?_ GE300.out)) hb)
            have NB300_305 := Aside0.mk ((by rw [hg]; exact Nat.ne_of_lt (blk_lt BK300.out) : gb300 ≠ gb305))
            have NB305_300 := Aside0.mk ((by rw [hg]; exact Nat.ne_of_gt (blk_lt BK300.out) : gb305 ≠ gb300))
            replace BK300 := bl_ BK300 hb
            clear hb hbox hg
            refine hK.out _ _ ⟨(blk_cell BK300.out 0).trans rfl, (blk_cell BK300.out 1).trans rfl⟩ (fun hHeld => ?_)
            clear hK K
            refine norm_ (a' := ?_) ?_ ?_
            rotate_left
            · show Act.put _ (some 13) _ = _
              simp only [Act.put, List.setIfInBounds_toArray, List.set_cons_zero, List.set_cons_succ, i64_w, i32_w]
              rfl
            exact norm_ (by simp only [putAll, Act.put, List.setIfInBounds_toArray, List.set_cons_zero, List.set_cons_succ]) (hCont (.slice Ao30 t302.length co30, gb305) _ ⟨hHeld, (by (with_reducible repeat (first | apply Kd.R_alloc | apply Kd.R_drewN | apply Kd.R_drew)); exact HO304.out), (by (with_reducible repeat (first | refine blk_drewN ?_ _ | refine blk_drew ?_ | refine blk_alloc ?_ _)); exact BK300.out), (by (with_reducible repeat (first | refine blk_drewN ?_ _ | refine blk_drew ?_ | refine blk_alloc ?_ _)); exact BK305.out), GW305.out, GE305.out, NB300_305.out, NB305_300.out, (by repeat (with_reducible first | exact HB.out | apply pw_below_drewN | apply below_drew1 | refine below_set ?_ (Aside0.out (by assumption))))⟩)
          · skip
            refine box_step ?hg (N := 13) ?hd (cs := #[.int .i64 0, .slice none 0 0]) (t := 24) ?hr ?_; (case hd => rfl); (case hg => rfl); (case hr => first | (go_simp; done) | (go_simp; rfl))
            intro gb305 hg w29 hbox hb
            have BK305 := Aside0.mk (hbox)
            have GW305 := Aside0.mk ((by rw [hg]; exact (below_size (by repeat (with_reducible first | exact HB.out | apply pw_below_drewN | apply below_drew1 | refine below_set ?_ GE300.out))) : w.heap.size ≤ gb305))
            have GE305 := Aside0.mk ((by rw [hg]; exact (below_size (by repeat (with_reducible first | exact HB.out | apply pw_below_drewN | apply below_drew1 | refine below_set ?_ GE300.out))) : w.heap.size ≤ gb305))
            replace HB := Aside0.mk (below_step (by repeat (with_reducible first | exact HB.out | apply pw_below_drewN | apply below_drew1 | refine below_set ?_ GE300.out)) hb)
            have NB300_305 := Aside0.mk ((by rw [hg]; exact Nat.ne_of_lt (blk_lt BK300.out) : gb300 ≠ gb305))
            have NB305_300 := Aside0.mk ((by rw [hg]; exact Nat.ne_of_gt (blk_lt BK300.out) : gb305 ≠ gb300))
            replace BK300 := bl_ BK300 hb
            clear hb hbox hg
            refine hK.out _ _ ⟨(blk_cell BK300.out 0).trans rfl, (blk_cell BK300.out 1).trans rfl⟩ (fun hHeld => ?_)
            clear hK K
            refine norm_ (a' := ?_) ?_ ?_
            rotate_left
            · show Act.put _ (some 13) _ = _
              simp only [Act.put, List.setIfInBounds_toArray, List.set_cons_zero, List.set_cons_succ, i64_w, i32_w]
              rfl
            refine one_ (i := 4) (N := some 50) #[true, true, true, true, true, false, true, false] rfl rfl (one_of HT_.out (by kernel_rfl)) (by decide) (fun K hK => ?_)
            refine goes_ Try.func9 (by kernel_rfl) rfl #[.slice A0_1 l0_1.length c0_1] (by rfl) rfl rfl (by (try simp only [List.map_toArray, List.map_cons, List.map_nil]); first | done | rfl | (simp only [List.length_drop, List.length_take]; rfl)) ?_
            with_reducible refine (watchmanref21_Own.calls _ _ l0_1 t302 _ ?side1 ?side2 A16.out).mono ?_
            (case side1 => exact (Kd.C_below HR0_1.out HB.out))
            (case side2 => exact HC0_1.out)
            rintro e w30 ⟨v303, rfl, ho0, hb⟩
            refine ⟨_, rfl, ?_⟩
            have HO304 := Aside0.mk (Kd.R_lower ho0 (below_size (by repeat (with_reducible first | exact HB.out | apply pw_below_drewN | apply below_drew1 | refine below_set ?_ (Aside0.out (by assumption))))))
            replace BK300 := bl_ BK300 hb
            replace BK305 := bl_ BK305 hb
            replace HB := Aside0.mk (below_step (by repeat (with_reducible first | exact HB.out | apply pw_below_drewN | apply below_drew1 | refine below_set ?_ (Aside0.out (by assumption)))) hb)
            (try clear hb)
            (try clear hb2)
            (try clear hk)
            (try clear hi)
            (try clear ho0)
            obtain ⟨Ao31, co31, eo31⟩ := Kd.R_slice HO304.out
            (first | subst eo31 | (injection eo31 with f1_ f2_ f3_; have f4_ := f1_.symm; have f5_ := f3_.symm; clear f1_ f2_ f3_; subst f4_; subst f5_))
            refine hK.out _ _ ⟨(blk_cell BK300.out 0).trans rfl, (blk_cell BK300.out 1).trans rfl⟩ (fun hHeld => ?_)
            clear hK K
            refine norm_ (a' := ?_) ?_ ?_
            rotate_left
            · show Act.put _ (some 50) _ = _
              simp only [Act.put, List.setIfInBounds_toArray, List.set_cons_zero, List.set_cons_succ, i64_w, i32_w]
              rfl
            refine pure_ (i := 5) (N := some 51) (v := ?_) (a' := ?_) (dn_ 7 8) rfl rfl (any_of HT_.out (by kernel_rfl)) (fun _ _ _ h => h) (Or.inl ⟨by rfl, ?_⟩) ?_ ?_
            rotate_left
            · intro w'
              go_simp
              with_reducible rfl
            rotate_left; (simp only [Act.put, List.setIfInBounds_toArray, List.set_cons_zero, List.set_cons_succ, i64_w, i32_w]; rfl)
            exact norm_ (by simp only [putAll, Act.put, List.setIfInBounds_toArray, List.set_cons_zero, List.set_cons_succ]) (hCont (.slice Ao31 t302.length co31, gb305) _ ⟨hHeld, (by (with_reducible repeat (first | apply Kd.R_alloc | apply Kd.R_drewN | apply Kd.R_drew)); exact HO304.out), (by (with_reducible repeat (first | refine blk_drewN ?_ _ | refine blk_drew ?_ | refine blk_alloc ?_ _)); exact BK300.out), (by (with_reducible repeat (first | refine blk_drewN ?_ _ | refine blk_drew ?_ | refine blk_alloc ?_ _)); exact BK305.out), GW305.out, GE305.out, NB300_305.out, NB305_300.out, (by repeat (with_reducible first | exact HB.out | apply pw_below_drewN | apply below_drew1 | refine below_set ?_ (Aside0.out (by assumption))))⟩)
        rintro ⟨v303, gb305⟩ w32 ⟨hS_, h0_, h1_, h2_, h3_, h4_, h5_, h6_, h7_⟩
        have n0_ : Aside0 (Kd.R k35 35 w32 w.heap.size (fun _ => True) v303 t302) := ⟨h0_⟩
        have n1_ : Aside0 (w32.heap[gb300]? = some (.cells #[.int .i64 a0_0, .slice A0_1 l0_1.length c0_1] 24 (0, 0))) := ⟨h1_⟩
        have n2_ : Aside0 (w32.heap[gb305]? = some (.cells #[.int .i64 0, .slice none 0 0] 24 (0, 0))) := ⟨h2_⟩
        have n3_ : Aside0 (w.heap.size ≤ gb305) := ⟨h3_⟩
        have n4_ : Aside0 (w.heap.size ≤ gb305) := ⟨h4_⟩
        have n5_ : Aside0 (gb300 ≠ gb305) := ⟨h5_⟩
        have n6_ : Aside0 (gb305 ≠ gb300) := ⟨h6_⟩
        have n7_ : Aside0 (Below w.heap.size w w32) := ⟨h7_⟩
        clear BK300
        clear HB
        clear h0_ h1_ h2_ h3_ h4_ h5_ h6_ h7_
        have HO304 := n0_
        have BK300 := n1_
        have BK305 := n2_
        have GW305 := n3_
        have GE305 := n4_
        have NB300_305 := n5_
        have NB305_300 := n6_
        have HB := n7_
        clear n0_ n1_ n2_ n3_ n4_ n5_ n6_ n7_
        have hHeld : w32.cell? ⟨gb300, 0, none⟩ = some (.int .i64 a0_0) ∧ w32.cell? ⟨gb300, 1, none⟩ = some (.slice A0_1 l0_1.length c0_1) := hS_
        obtain ⟨Ao33, co33, eo33⟩ := Kd.R_slice HO304.out
        (first | subst eo33 | (injection eo33 with f1_ f2_ f3_; have f4_ := f1_.symm; have f5_ := f3_.symm; clear f1_ f2_ f3_; subst f4_; subst f5_))
        refine norm_ (a' := ?_) ?_ ?_
        rotate_left; (simp only [putAll, Act.put, List.setIfInBounds_toArray, List.set_cons_zero, List.set_cons_succ]; rfl)
        refine one_ (i := 7) (N := none) #[true, true, true, true, true, true, true, true] rfl rfl (one_of HT_.out (by kernel_rfl)) (by decide) (fun K hK => ?_)
        have hs34 : w32.cell? ⟨gb305, 0, none⟩ = some (.int .i64 0) := (blk_cell BK305.out 0).trans rfl
        have hfs34 := blk_frozen BK305.out 0
        have hns34_0 := NB300_305.out
        have hms34_0 := NB305_300.out
        have hs35 : w32.cell? ⟨gb305, 1, none⟩ = some (.slice none 0 0) := (blk_cell BK305.out 1).trans rfl
        have hfs35 := blk_frozen BK305.out 1
        have hns35_0 := NB300_305.out
        have hms35_0 := NB305_300.out
        refine skip_ (w1 := ?_) (by rfl) rfl ?_ ?_
        rotate_left
        · go_simp
          rfl
        refine hK.out _ _ ⟨((cell_far (p := ⟨gb305, _, none⟩) NB300_305.out _).trans (((cell_far (p := ⟨gb305, _, none⟩) NB300_305.out _).trans (hHeld.1)))), ((cell_far (p := ⟨gb305, _, none⟩) NB300_305.out _).trans (((cell_far (p := ⟨gb305, _, none⟩) NB300_305.out _).trans (hHeld.2))))⟩ (fun hHeld => ?_)
        clear hK K
        refine done_ (done_of HT_.out (by kernel_rfl)) ?_
        have hcz37_0 : w32.cell? ⟨gb300, 0, none⟩ = some (.int .i64 a0_0) := (blk_cell BK300.out 0).trans rfl
        have hcz37_1 : w32.cell? ⟨gb300, 1, none⟩ = some (.slice A0_1 l0_1.length c0_1) := (blk_cell BK300.out 1).trans rfl
        try go_wp2_with (first | ((with_reducible refine gate_callee (f := 10) rfl ?_); refine goesL_ (some 57) rfl rfl Try.func10 (by kernel_rfl) rfl #[.agg #[.int .i64 a0_0, .slice A0_1 l0_1.length c0_1], .int .i64 a1, .int .i64 a2, .slice A4 l4.length c4] rfl (by (try simp only [List.map_toArray, List.map_cons, List.map_nil]); first | done | rfl | (simp only [List.length_drop, List.length_take]; rfl)) ?_; (with_reducible refine (post_Send.calls kj6 a0_0 _ _ l0_1 a1 a2 _ _ l4 t306 t307 t310 t311 _ ?side1 ?side2 ?side3 ?side4 A17.out).mono ?_); (case side1 => exact Kd.C_below HR0_1.out (by repeat (with_reducible first | exact HB.out | apply pw_below_drewN | apply below_drew1 | refine below_set ?_ (Aside0.out (by assumption))))); (case side2 => exact HC0_1.out); (case side3 => exact Kd.C_below HR4.out (by repeat (with_reducible first | exact HB.out | apply pw_below_drewN | apply below_drew1 | refine below_set ?_ (Aside0.out (by assumption))))); (case side4 => exact HC4.out); rintro e w38 ⟨v308, rfl, ho0, hb⟩; refine ⟨_, rfl, ?_⟩; have HO309 := Aside0.mk (Kd.R_lower (Kd.R_new' ho0 (Kd.R_lt (by (with_reducible repeat (first | apply Kd.R_alloc | apply Kd.R_drewN | apply Kd.R_drew)); exact (Kd.R_mono (rf2 (Kd.R_types HO304.out BK305.out (by decide)) (fun _ hk => hk.2) (.int .i64 a0_0) (.slice Ao33 t302.length co33)) (fun _ h_ => h_.1))))) (below_size (by repeat (with_reducible first | exact HB.out | apply pw_below_drewN | apply below_drew1 | refine below_set ?_ (Aside0.out (by assumption)))))); replace HO304 := Aside0.mk (Kd.R_elder' (by (with_reducible repeat (first | apply Kd.R_alloc | apply Kd.R_drewN | apply Kd.R_drew)); exact (Kd.R_mono (rf2 (Kd.R_types HO304.out BK305.out (by decide)) (fun _ hk => hk.2) (.int .i64 a0_0) (.slice Ao33 t302.length co33)) (fun _ h_ => h_.1))) (Kd.R_base ho0) hb); replace BK300 := Aside0.mk (blk_below (g := gb300) (o := .cells #[.int .i64 a0_0, .slice A0_1 l0_1.length c0_1] 24 (0, 0)) (by refine blk_far ?_ NB300_305.out _; refine blk_far ?_ NB300_305.out _; exact BK300.out) hb); replace BK305 := Aside0.mk (blk_below (g := gb305) (o := .cells #[.int .i64 a0_0, .slice Ao33 t302.length co33] 24 (0, 0)) (by refine blk_put (cs := #[.int .i64 a0_0, .slice none 0 0]) ?_ 1 _ rfl; refine blk_put (cs := #[.int .i64 0, .slice none 0 0]) ?_ 0 _ rfl; exact BK305.out) hb); replace HB := Aside0.mk (below_step (by repeat (with_reducible first | exact HB.out | apply pw_below_drewN | apply below_drew1 | refine below_set ?_ (Aside0.out (by assumption)))) hb); (try clear hb); (try clear hb2); (try clear hk); (try clear hi); (try clear ho0)) | ((with_reducible refine gate_dst (N := 14) rfl ?_); (try (refine gate_guard (by rfl) ?_; dsimp only)); refine box_event ?hg (N := 14) ?hd (cs := #[.int .i64 0, .slice none 0 0]) (t := 24) ?hr ?_; (case hd => rfl); (case hg => rfl); (case hr => first | (go_simp; done) | (go_simp; rfl)); intro gb312 hg w39 hbox hb; replace HO304 := rb_ HO304 hb; replace HO309 := rb_ HO309 hb; have BK312 := Aside0.mk (hbox); have GW312 := Aside0.mk ((by rw [hg]; exact (below_size (by repeat (with_reducible first | exact HB.out | apply pw_below_drewN | apply below_drew1 | refine below_set ?_ (Aside0.out (by assumption))))) : w.heap.size ≤ gb312)); have GE312 := Aside0.mk ((by rw [hg]; exact (below_size (by repeat (with_reducible first | exact HB.out | apply pw_below_drewN | apply below_drew1 | refine below_set ?_ (Aside0.out (by assumption))))) : w.heap.size ≤ gb312)); replace HB := Aside0.mk (below_step (by repeat (with_reducible first | exact HB.out | apply pw_below_drewN | apply below_drew1 | refine below_set ?_ (Aside0.out (by assumption)))) hb); have NB300_312 := Aside0.mk ((by rw [hg]; exact Nat.ne_of_lt (blk_lt BK300.out) : gb300 ≠ gb312)); have NB312_300 := Aside0.mk ((by rw [hg]; exact Nat.ne_of_gt (blk_lt BK300.out) : gb312 ≠ gb300)); replace BK300 := bl_ BK300 hb; have NB305_312 := Aside0.mk ((by rw [hg]; exact Nat.ne_of_lt (blk_lt BK305.out) : gb305 ≠ gb312)); have NB312_305 := Aside0.mk ((by rw [hg]; exact Nat.ne_of_gt (blk_lt BK305.out) : gb312 ≠ gb305)); replace BK305 := bl_ BK305 hb; clear hb hbox hg; have hnb40 := NB312_300.out; have hnc40 := NB300_312.out; have hnb41 := NB312_305.out; have hnc41 := NB305_312.out; have hcz42_0 : w39.cell? ⟨gb312, 0, none⟩ = some (.int .i64 0) := (blk_cell BK312.out 0).trans rfl; have hcz42_1 : w39.cell? ⟨gb312, 1, none⟩ = some (.slice none 0 0) := (blk_cell BK312.out 1).trans rfl; have hfz42_0 := blk_frozen BK312.out 0; have hfz42_1 := blk_frozen BK312.out 1; obtain ⟨Ao43, co43, eo43⟩ := Kd.R_slice HO309.out; subst eo43))
        have n0_ : Aside0 (Kd.R k35 35 ((w39.setCell ⟨gb312, 0, none⟩ (.int .i64 t306)).setCell ⟨gb312, 1, none⟩ (.slice Ao43 t307.length co43)) w.heap.size (fun k_ => some k_ ≠ (.slice Ao43 t307.length co43 : Value).ownBlock) (.slice Ao33 t302.length co33) t302) := ⟨by (with_reducible repeat (first | apply Kd.R_alloc | apply Kd.R_drewN | apply Kd.R_drew)); exact Kd.R_mono (rf2 (Kd.R_types HO304.out BK312.out (by decide)) (fun _ hk => hk.2) (.int .i64 t306) (.slice Ao43 t307.length co43)) (fun _ hk => hk.1.2)⟩
        have n1_ : Aside0 (Kd.R k35 35 ((w39.setCell ⟨gb312, 0, none⟩ (.int .i64 t306)).setCell ⟨gb312, 1, none⟩ (.slice Ao43 t307.length co43)) w.heap.size (fun k_ => some k_ ≠ (.slice Ao33 t302.length co33 : Value).ownBlock) (.slice Ao43 t307.length co43) t307) := ⟨by (with_reducible repeat (first | apply Kd.R_alloc | apply Kd.R_drewN | apply Kd.R_drew)); exact Kd.R_mono (rf2 (Kd.R_types HO309.out BK312.out (by decide)) (fun _ hk => hk.2) (.int .i64 t306) (.slice Ao43 t307.length co43)) (fun _ hk => hk.1.2)⟩
        have n2_ : Aside0 (((w39.setCell ⟨gb312, 0, none⟩ (.int .i64 t306)).setCell ⟨gb312, 1, none⟩ (.slice Ao43 t307.length co43)).heap[gb300]? = some (.cells #[.int .i64 a0_0, .slice A0_1 l0_1.length c0_1] 24 (0, 0))) := ⟨by refine blk_far ?_ NB300_312.out _; refine blk_far ?_ NB300_312.out _; exact BK300.out⟩
        have n3_ : Aside0 (((w39.setCell ⟨gb312, 0, none⟩ (.int .i64 t306)).setCell ⟨gb312, 1, none⟩ (.slice Ao43 t307.length co43)).heap[gb305]? = some (.cells #[.int .i64 a0_0, .slice Ao33 t302.length co33] 24 (0, 0))) := ⟨by refine blk_far ?_ NB305_312.out _; refine blk_far ?_ NB305_312.out _; exact BK305.out⟩
        have n4_ : Aside0 (((w39.setCell ⟨gb312, 0, none⟩ (.int .i64 t306)).setCell ⟨gb312, 1, none⟩ (.slice Ao43 t307.length co43)).heap[gb312]? = some (.cells #[.int .i64 t306, .slice Ao43 t307.length co43] 24 (0, 0))) := ⟨by refine blk_put (cs := #[.int .i64 t306, .slice none 0 0]) ?_ 1 _ rfl; refine blk_put (cs := #[.int .i64 0, .slice none 0 0]) ?_ 0 _ rfl; exact BK312.out⟩
        have n5_ : Aside0 (Below w.heap.size w ((w39.setCell ⟨gb312, 0, none⟩ (.int .i64 t306)).setCell ⟨gb312, 1, none⟩ (.slice Ao43 t307.length co43))) := ⟨by repeat (with_reducible first | exact HB.out | apply pw_below_drewN | apply below_drew1 | refine below_set ?_ (Aside0.out (by assumption)))⟩
        (try clear HO304)
        (try clear HO309)
        (try clear BK300)
        (try clear BK305)
        (try clear BK312)
        (try clear HB)
        generalize ((w39.setCell ⟨gb312, 0, none⟩ (.int .i64 t306)).setCell ⟨gb312, 1, none⟩ (.slice Ao43 t307.length co43)) = w44 at n0_ n1_ n2_ n3_ n4_ n5_ ⊢
        have HO304 := n0_
        have HO309 := n1_
        have BK300 := n2_
        have BK305 := n3_
        have BK312 := n4_
        have HB := n5_
        clear n0_ n1_ n2_ n3_ n4_ n5_
        replace HO304 := Aside0.mk (Kd.R_drew HO304.out)
        replace HO309 := Aside0.mk (Kd.R_drew HO309.out)
        replace BK300 := Aside0.mk (blk_drew BK300.out)
        replace BK305 := Aside0.mk (blk_drew BK305.out)
        replace BK312 := Aside0.mk (blk_drew BK312.out)
        replace HB := Aside0.mk (below_drew1 HB.out)
        refine start_ (n := 14) (S := fun w' => w'.cell? ⟨gb305, 0, none⟩ = some (.int .i64 a0_0) ∧ w'.cell? ⟨gb305, 1, none⟩ = some (.slice Ao33 t302.length co33)) (ds := []) #[false, false, false, false, false, false, false, false, false, false, false, false, false, false] (by kernel_rfl) rfl rfl ⟨(blk_cell BK305.out 0).trans rfl, (blk_cell BK305.out 1).trans rfl⟩ (fun hHeld => ?_); refine with_tabW watchmanlaw21_PostDoes.tab5 watchmanlaw21_PostDoes.bits5 (fun HT_ HW_ => ?_)
        generalize w44.drew = w45 at HO304 HO309 BK300 BK305 BK312 HB hHeld ⊢
        refine pure_ (i := 1) (N := some 63) (v := ?_) (a' := ?_) #[false, true, false, false, false, false, false, false, false, false, false, false, false, false] rfl rfl (any_of HT_.out (by kernel_rfl)) (fun _ _ _ h => h) (Or.inl ⟨by rfl, ?_⟩) ?_ ?_
        rotate_left
        · intro w'
          go_simp
          with_reducible rfl
        rotate_left; (simp only [Act.put, List.setIfInBounds_toArray, List.set_cons_zero, List.set_cons_succ, i64_w, i32_w]; rfl)
        refine pure_ (i := 2) (N := some 64) (v := ?_) (a' := ?_) #[false, true, true, false, false, false, false, false, false, false, false, false, false, false] rfl rfl (any_of HT_.out (by kernel_rfl)) (fun _ _ _ h => h) (Or.inl ⟨by rfl, ?_⟩) ?_ ?_
        rotate_left
        · intro w'
          go_simp
          with_reducible rfl
        rotate_left; (simp only [Act.put, List.setIfInBounds_toArray, List.set_cons_zero, List.set_cons_succ, i64_w, i32_w]; rfl)
        refine pure_ (i := 3) (N := some 65) (v := ?_) (a' := ?_) #[false, true, true, true, false, false, false, false, false, false, false, false, false, false] rfl rfl (any_of HT_.out (by kernel_rfl)) (fun _ _ _ h => h) (Or.inl ⟨by rfl, ?_⟩) ?_ ?_
        rotate_left
        · intro w'
          go_simp
          with_reducible rfl
        rotate_left; (simp only [Act.put, List.setIfInBounds_toArray, List.set_cons_zero, List.set_cons_succ, i64_w, i32_w]; rfl)
        refine take_ (i := 0) (N := some 62) (v := ?_) (a' := ?_) (dn_ 4 14) rfl rfl (take_ofW HT_.out HW_.out (by kernel_rfl)) (fun _ _ _ h => h) (Or.inl ⟨by rfl, ?_⟩) hHeld ?_ ?_
        rotate_left
        · rintro w' ⟨s0, s1⟩
          go_simp
          with_reducible rfl
        rotate_left; (simp only [Act.put, List.setIfInBounds_toArray, List.set_cons_zero, List.set_cons_succ, i64_w, i32_w]; rfl)
        refine join_ (σ := Value × Value × Nat) 3 (dn_ 11 14) (fun s_ => [(66, s_.1), (67, .tuple #[.agg #[.int .i64 t316, s_.2.1], .int .i64 t320, .int .i64 t321]), (17, .pointer (some ⟨s_.2.2, 0, none⟩)), (61, .tuple #[.agg #[.int .i64 t316, s_.2.1], .int .i64 t320, .int .i64 t321]), (68, .agg #[.int .i64 t316, s_.2.1]), (69, .int .i64 t320), (70, .int .i64 t321)]) (fun s_ w' => (w'.cell? ⟨gb305, 0, none⟩ = some (.int .i64 a0_0) ∧ w'.cell? ⟨gb305, 1, none⟩ = some (.slice Ao33 t302.length co33)) ∧ (Kd.R k35 35 w' w.heap.size (fun k_ => some k_ ≠ (.slice Ao43 t307.length co43 : Value).ownBlock ∧ some k_ ≠ (s_.2.1 : Value).ownBlock) (.slice Ao33 t302.length co33) t302) ∧ (Kd.R k35 35 w' w.heap.size (fun k_ => some k_ ≠ (.slice Ao33 t302.length co33 : Value).ownBlock ∧ some k_ ≠ (s_.2.1 : Value).ownBlock) (.slice Ao43 t307.length co43) t307) ∧ (Kd.R Kd.string 9 w' w.heap.size (fun _ => True) s_.1 t313) ∧ (Kd.R k35 35 w' w.heap.size (fun k_ => some k_ ≠ (.slice Ao33 t302.length co33 : Value).ownBlock ∧ some k_ ≠ (.slice Ao43 t307.length co43 : Value).ownBlock) s_.2.1 t317) ∧ (w'.heap[gb300]? = some (.cells #[.int .i64 a0_0, .slice A0_1 l0_1.length c0_1] 24 (0, 0))) ∧ (w'.heap[gb305]? = some (.cells #[.int .i64 a0_0, .slice Ao33 t302.length co33] 24 (0, 0))) ∧ (w'.heap[gb312]? = some (.cells #[.int .i64 t306, .slice Ao43 t307.length co43] 24 (0, 0))) ∧ (w'.heap[s_.2.2]? = some (.cells #[.int .i64 0, .slice none 0 0] 24 (0, 0))) ∧ (w.heap.size ≤ s_.2.2) ∧ (w.heap.size ≤ s_.2.2) ∧ (gb300 ≠ s_.2.2) ∧ (s_.2.2 ≠ gb300) ∧ (gb305 ≠ s_.2.2) ∧ (s_.2.2 ≠ gb305) ∧ (gb312 ≠ s_.2.2) ∧ (s_.2.2 ≠ gb312) ∧ (Below w.heap.size w w')) ?_ ?_
        rotate_left
        · intro hCont
          refine two_ (i := 4) (j := 10) (Ni := some 66) (Nj := some 17) (dn_ 5 14) #[true, true, true, true, false, false, false, false, false, false, true, false, false, false] rfl rfl rfl rfl (two_of HT_.out (by kernel_rfl)) (by decide) (by decide) (fun K hK => ?_) (fun K hK => ?_)
          · skip
            refine goes_ Try.func12 (by kernel_rfl) rfl #[.slice A4 l4.length c4] (by rfl) rfl rfl (by (try simp only [List.map_toArray, List.map_cons, List.map_nil]); first | done | rfl | (simp only [List.length_drop, List.length_take]; rfl)) ?_
            with_reducible refine (watchmanref01_OwnTexts.calls _ _ l4 t313 _ ?side1 ?side2 A18.out).mono ?_
            (case side1 => exact (Kd.C_below HR4.out HB.out))
            (case side2 => exact HC4.out)
            rintro e w46 ⟨v314, rfl, ho0, hb⟩
            refine ⟨_, rfl, ?_⟩
            replace HO304 := rb_ HO304 hb
            replace HO309 := rb_ HO309 hb
            have HO315 := Aside0.mk (Kd.R_lower ho0 (below_size (by repeat (with_reducible first | exact HB.out | apply pw_below_drewN | apply below_drew1 | refine below_set ?_ (Aside0.out (by assumption))))))
            replace BK300 := bl_ BK300 hb
            replace BK305 := bl_ BK305 hb
            replace BK312 := bl_ BK312 hb
            replace HB := Aside0.mk (below_step (by repeat (with_reducible first | exact HB.out | apply pw_below_drewN | apply below_drew1 | refine below_set ?_ (Aside0.out (by assumption)))) hb)
            (try clear hb)
            (try clear hb2)
            (try clear hk)
            (try clear hi)
            (try clear ho0)
            obtain ⟨Ao47, co47, eo47⟩ := Kd.R_slice HO315.out
            (first | subst eo47 | (injection eo47 with f1_ f2_ f3_; have f4_ := f1_.symm; have f5_ := f3_.symm; clear f1_ f2_ f3_; subst f4_; subst f5_))
            refine hK.out _ _ ⟨(blk_cell BK305.out 0).trans rfl, (blk_cell BK305.out 1).trans rfl⟩ (fun hHeld => ?_)
            clear hK K
            refine norm_ (a' := ?_) ?_ ?_
            rotate_left
            · show Act.put _ (some 66) _ = _
              simp only [Act.put, List.setIfInBounds_toArray, List.set_cons_zero, List.set_cons_succ, i64_w, i32_w]
              rfl
            refine two_ (i := 5) (j := 10) (Ni := some 67) (Nj := some 17) (dn_ 6 14) #[true, true, true, true, true, false, false, false, false, false, true, false, false, false] rfl rfl rfl rfl (two_of HT_.out (by kernel_rfl)) (by decide) (by decide) (fun K hK => ?_) (fun K hK => ?_)
            · skip
              refine goes_ Try.func11 (by kernel_rfl) rfl #[.agg #[.int .i64 a0_0, .slice Ao33 t302.length co33], .int .i64 a1, .int .i64 a2, .slice Ao47 t313.length co47] (by rfl) rfl rfl (by (try simp only [List.map_toArray, List.map_cons, List.map_nil]); first | done | rfl | (simp only [List.length_drop, List.length_take]; rfl)) ?_
              with_reducible refine (watchmanref21_Send.calls kj6 a0_0 _ _ t302 a1 a2 _ _ t313 t316 t317 t320 t321 _ ?side1 ?side2 ?side3 ?side4 A19.out).mono ?_
              (case side1 => repeat (first | exact (Kd.R_reads' HO304.out).2.2 | (with_reducible refine Kd.C_alloc ?_ _) | (with_reducible refine Kd.C_drewN ?_ _) | (with_reducible refine Kd.C_drew ?_)))
              (case side2 => exact (Kd.R_reads' HO304.out).2.1)
              (case side3 => repeat (first | exact (Kd.R_reads' HO315.out).2.2 | (with_reducible refine Kd.C_alloc ?_ _) | (with_reducible refine Kd.C_drewN ?_ _) | (with_reducible refine Kd.C_drew ?_)))
              (case side4 => exact (Kd.R_reads' HO315.out).2.1)
              rintro e w48 ⟨v318, rfl, ho0, hb⟩
              refine ⟨_, rfl, ?_⟩
              replace HO315 := rb_ HO315 hb
              have HO319 := Aside0.mk (Kd.R_lower (Kd.R_new' (Kd.R_new' ho0 (Kd.R_lt (HO304.out))) (Kd.R_lt (HO309.out))) (below_size (by repeat (with_reducible first | exact HB.out | apply pw_below_drewN | apply below_drew1 | refine below_set ?_ (Aside0.out (by assumption))))))
              replace HO304 := Aside0.mk (Kd.R_elder' (HO304.out) (Kd.R_base ho0) hb)
              replace HO309 := Aside0.mk (Kd.R_elder' (HO309.out) (Kd.R_base ho0) hb)
              replace BK300 := bl_ BK300 hb
              replace BK305 := bl_ BK305 hb
              replace BK312 := bl_ BK312 hb
              replace HB := Aside0.mk (below_step (by repeat (with_reducible first | exact HB.out | apply pw_below_drewN | apply below_drew1 | refine below_set ?_ (Aside0.out (by assumption)))) hb)
              (try clear hb)
              (try clear hb2)
              (try clear hk)
              (try clear hi)
              (try clear ho0)
              refine hK.out _ _ ⟨(blk_cell BK305.out 0).trans rfl, (blk_cell BK305.out 1).trans rfl⟩ (fun hHeld => ?_)
              clear hK K
              refine norm_ (a' := ?_) ?_ ?_
              rotate_left
              · show Act.put _ (some 67) _ = _
                simp only [Act.put, List.setIfInBounds_toArray, List.set_cons_zero, List.set_cons_succ, i64_w, i32_w]
                rfl
              refine pure_ (i := 6) (N := some 61) (v := ?_) (a' := ?_) (dn_ 7 14) rfl rfl (any_of HT_.out (by kernel_rfl)) (fun _ _ _ h => h) (Or.inl ⟨by rfl, ?_⟩) ?_ ?_
              rotate_left
              · intro w'
                go_simp
                with_reducible rfl
              rotate_left; (simp only [Act.put, List.setIfInBounds_toArray, List.set_cons_zero, List.set_cons_succ, i64_w, i32_w]; rfl)
              refine pure_ (i := 7) (N := some 68) (v := ?_) (a' := ?_) (dn_ 8 14) rfl rfl (any_of HT_.out (by kernel_rfl)) (fun _ _ _ h => h) (Or.inl ⟨by rfl, ?_⟩) ?_ ?_
              rotate_left
              · intro w'
                go_simp
                with_reducible rfl
              rotate_left; (simp only [Act.put, List.setIfInBounds_toArray, List.set_cons_zero, List.set_cons_succ, i64_w, i32_w]; rfl)
              refine pure_ (i := 8) (N := some 69) (v := ?_) (a' := ?_) (dn_ 9 14) rfl rfl (any_of HT_.out (by kernel_rfl)) (fun _ _ _ h => h) (Or.inl ⟨by rfl, ?_⟩) ?_ ?_
              rotate_left
              · intro w'
                go_simp
                with_reducible rfl
              rotate_left; (simp only [Act.put, List.setIfInBounds_toArray, List.set_cons_zero, List.set_cons_succ, i64_w, i32_w]; rfl)
              refine pure_ (i := 9) (N := some 70) (v := ?_) (a' := ?_) (dn_ 10 14) rfl rfl (any_of HT_.out (by kernel_rfl)) (fun _ _ _ h => h) (Or.inl ⟨by rfl, ?_⟩) ?_ ?_
              rotate_left
              · intro w'
                go_simp
                with_reducible rfl
              rotate_left; (simp only [Act.put, List.setIfInBounds_toArray, List.set_cons_zero, List.set_cons_succ, i64_w, i32_w]; rfl)
              refine one_ (i := 10) (N := some 17) (dn_ 11 14) rfl rfl (one_of HT_.out (by kernel_rfl)) (by decide) (fun K hK => ?_)
              refine box_step ?hg (N := 17) ?hd (cs := #[.int .i64 0, .slice none 0 0]) (t := 24) ?hr ?_; (case hd => rfl); (case hg => rfl); (case hr => first | (go_simp; done) | (go_simp; rfl))
              intro gb322 hg w49 hbox hb
              replace HO304 := rb_ HO304 hb
              replace HO309 := rb_ HO309 hb
              replace HO315 := rb_ HO315 hb
              replace HO319 := rb_ HO319 hb
              have BK322 := Aside0.mk (hbox)
              have GW322 := Aside0.mk ((by rw [hg]; exact (below_size (by repeat (with_reducible first | exact HB.out | apply pw_below_drewN | apply below_drew1 | refine below_set ?_ (Aside0.out (by assumption))))) : w.heap.size ≤ gb322))
              have GE322 := Aside0.mk ((by rw [hg]; exact (below_size (by repeat (with_reducible first | exact HB.out | apply pw_below_drewN | apply below_drew1 | refine below_set ?_ (Aside0.out (by assumption))))) : w.heap.size ≤ gb322))
              replace HB := Aside0.mk (below_step (by repeat (with_reducible first | exact HB.out | apply pw_below_drewN | apply below_drew1 | refine below_set ?_ (Aside0.out (by assumption)))) hb)
              have NB300_322 := Aside0.mk ((by rw [hg]; exact Nat.ne_of_lt (blk_lt BK300.out) : gb300 ≠ gb322))
              have NB322_300 := Aside0.mk ((by rw [hg]; exact Nat.ne_of_gt (blk_lt BK300.out) : gb322 ≠ gb300))
              replace BK300 := bl_ BK300 hb
              have NB305_322 := Aside0.mk ((by rw [hg]; exact Nat.ne_of_lt (blk_lt BK305.out) : gb305 ≠ gb322))
              have NB322_305 := Aside0.mk ((by rw [hg]; exact Nat.ne_of_gt (blk_lt BK305.out) : gb322 ≠ gb305))
              replace BK305 := bl_ BK305 hb
              have NB312_322 := Aside0.mk ((by rw [hg]; exact Nat.ne_of_lt (blk_lt BK312.out) : gb312 ≠ gb322))
              have NB322_312 := Aside0.mk ((by rw [hg]; exact Nat.ne_of_gt (blk_lt BK312.out) : gb322 ≠ gb312))
              replace BK312 := bl_ BK312 hb
              clear hb hbox hg
              refine hK.out _ _ ⟨(blk_cell BK305.out 0).trans rfl, (blk_cell BK305.out 1).trans rfl⟩ (fun hHeld => ?_)
              clear hK K
              refine norm_ (a' := ?_) ?_ ?_
              rotate_left
              · show Act.put _ (some 17) _ = _
                simp only [Act.put, List.setIfInBounds_toArray, List.set_cons_zero, List.set_cons_succ, i64_w, i32_w]
                rfl
              exact norm_ (by simp only [putAll, Act.put, List.setIfInBounds_toArray, List.set_cons_zero, List.set_cons_succ]) (hCont (.slice Ao47 t313.length co47, v318, gb322) _ ⟨hHeld, (by (with_reducible repeat (first | apply Kd.R_alloc | apply Kd.R_drewN | apply Kd.R_drew)); exact HO304.out), (by (with_reducible repeat (first | apply Kd.R_alloc | apply Kd.R_drewN | apply Kd.R_drew)); exact HO309.out), (by (with_reducible repeat (first | apply Kd.R_alloc | apply Kd.R_drewN | apply Kd.R_drew)); exact HO315.out), (by (with_reducible repeat (first | apply Kd.R_alloc | apply Kd.R_drewN | apply Kd.R_drew)); exact Kd.R_mono HO319.out (fun _ hk => ⟨hk.1.2, hk.2⟩)), (by (with_reducible repeat (first | refine blk_drewN ?_ _ | refine blk_drew ?_ | refine blk_alloc ?_ _)); exact BK300.out), (by (with_reducible repeat (first | refine blk_drewN ?_ _ | refine blk_drew ?_ | refine blk_alloc ?_ _)); exact BK305.out), (by (with_reducible repeat (first | refine blk_drewN ?_ _ | refine blk_drew ?_ | refine blk_alloc ?_ _)); exact BK312.out), (by (with_reducible repeat (first | refine blk_drewN ?_ _ | refine blk_drew ?_ | refine blk_alloc ?_ _)); exact BK322.out), GW322.out, GE322.out, NB300_322.out, NB322_300.out, NB305_322.out, NB322_305.out, NB312_322.out, NB322_312.out, (by repeat (with_reducible first | exact HB.out | apply pw_below_drewN | apply below_drew1 | refine below_set ?_ (Aside0.out (by assumption))))⟩)
            · skip
              refine box_step ?hg (N := 17) ?hd (cs := #[.int .i64 0, .slice none 0 0]) (t := 24) ?hr ?_; (case hd => rfl); (case hg => rfl); (case hr => first | (go_simp; done) | (go_simp; rfl))
              intro gb322 hg w47 hbox hb
              replace HO304 := rb_ HO304 hb
              replace HO309 := rb_ HO309 hb
              replace HO315 := rb_ HO315 hb
              have BK322 := Aside0.mk (hbox)
              have GW322 := Aside0.mk ((by rw [hg]; exact (below_size (by repeat (with_reducible first | exact HB.out | apply pw_below_drewN | apply below_drew1 | refine below_set ?_ (Aside0.out (by assumption))))) : w.heap.size ≤ gb322))
              have GE322 := Aside0.mk ((by rw [hg]; exact (below_size (by repeat (with_reducible first | exact HB.out | apply pw_below_drewN | apply below_drew1 | refine below_set ?_ (Aside0.out (by assumption))))) : w.heap.size ≤ gb322))
              replace HB := Aside0.mk (below_step (by repeat (with_reducible first | exact HB.out | apply pw_below_drewN | apply below_drew1 | refine below_set ?_ (Aside0.out (by assumption)))) hb)
              have NB300_322 := Aside0.mk ((by rw [hg]; exact Nat.ne_of_lt (blk_lt BK300.out) : gb300 ≠ gb322))
              have NB322_300 := Aside0.mk ((by rw [hg]; exact Nat.ne_of_gt (blk_lt BK300.out) : gb322 ≠ gb300))
              replace BK300 := bl_ BK300 hb
              have NB305_322 := Aside0.mk ((by rw [hg]; exact Nat.ne_of_lt (blk_lt BK305.out) : gb305 ≠ gb322))
              have NB322_305 := Aside0.mk ((by rw [hg]; exact Nat.ne_of_gt (blk_lt BK305.out) : gb322 ≠ gb305))
              replace BK305 := bl_ BK305 hb
              have NB312_322 := Aside0.mk ((by rw [hg]; exact Nat.ne_of_lt (blk_lt BK312.out) : gb312 ≠ gb322))
              have NB322_312 := Aside0.mk ((by rw [hg]; exact Nat.ne_of_gt (blk_lt BK312.out) : gb322 ≠ gb312))
              replace BK312 := bl_ BK312 hb
              clear hb hbox hg
              obtain ⟨Ao48, co48, eo48⟩ := Kd.R_slice HO315.out
              (first | subst eo48 | (injection eo48 with f1_ f2_ f3_; have f4_ := f1_.symm; have f5_ := f3_.symm; clear f1_ f2_ f3_; subst f4_; subst f5_))
              refine hK.out _ _ ⟨(blk_cell BK305.out 0).trans rfl, (blk_cell BK305.out 1).trans rfl⟩ (fun hHeld => ?_)
              clear hK K
              refine norm_ (a' := ?_) ?_ ?_
              rotate_left
              · show Act.put _ (some 17) _ = _
                simp only [Act.put, List.setIfInBounds_toArray, List.set_cons_zero, List.set_cons_succ, i64_w, i32_w]
                rfl
              refine one_ (i := 5) (N := some 67) #[true, true, true, true, true, true, false, false, false, false, true, false, false, false] rfl rfl (one_of HT_.out (by kernel_rfl)) (by decide) (fun K hK => ?_)
              refine goes_ Try.func11 (by kernel_rfl) rfl #[.agg #[.int .i64 a0_0, .slice Ao33 t302.length co33], .int .i64 a1, .int .i64 a2, .slice Ao48 t313.length co48] (by rfl) rfl rfl (by (try simp only [List.map_toArray, List.map_cons, List.map_nil]); first | done | rfl | (simp only [List.length_drop, List.length_take]; rfl)) ?_
              with_reducible refine (watchmanref21_Send.calls kj6 a0_0 _ _ t302 a1 a2 _ _ t313 t316 t317 t320 t321 _ ?side1 ?side2 ?side3 ?side4 A19.out).mono ?_
              (case side1 => repeat (first | exact (Kd.R_reads' HO304.out).2.2 | (with_reducible refine Kd.C_alloc ?_ _) | (with_reducible refine Kd.C_drewN ?_ _) | (with_reducible refine Kd.C_drew ?_)))
              (case side2 => exact (Kd.R_reads' HO304.out).2.1)
              (case side3 => repeat (first | exact (Kd.R_reads' HO315.out).2.2 | (with_reducible refine Kd.C_alloc ?_ _) | (with_reducible refine Kd.C_drewN ?_ _) | (with_reducible refine Kd.C_drew ?_)))
              (case side4 => exact (Kd.R_reads' HO315.out).2.1)
              rintro e w49 ⟨v318, rfl, ho0, hb⟩
              refine ⟨_, rfl, ?_⟩
              replace HO315 := rb_ HO315 hb
              have HO319 := Aside0.mk (Kd.R_lower (Kd.R_new' (Kd.R_new' ho0 (Kd.R_lt (HO304.out))) (Kd.R_lt (HO309.out))) (below_size (by repeat (with_reducible first | exact HB.out | apply pw_below_drewN | apply below_drew1 | refine below_set ?_ (Aside0.out (by assumption))))))
              replace HO304 := Aside0.mk (Kd.R_elder' (HO304.out) (Kd.R_base ho0) hb)
              replace HO309 := Aside0.mk (Kd.R_elder' (HO309.out) (Kd.R_base ho0) hb)
              replace BK300 := bl_ BK300 hb
              replace BK305 := bl_ BK305 hb
              replace BK312 := bl_ BK312 hb
              replace BK322 := bl_ BK322 hb
              replace HB := Aside0.mk (below_step (by repeat (with_reducible first | exact HB.out | apply pw_below_drewN | apply below_drew1 | refine below_set ?_ (Aside0.out (by assumption)))) hb)
              (try clear hb)
              (try clear hb2)
              (try clear hk)
              (try clear hi)
              (try clear ho0)
              refine hK.out _ _ ⟨(blk_cell BK305.out 0).trans rfl, (blk_cell BK305.out 1).trans rfl⟩ (fun hHeld => ?_)
              clear hK K
              refine norm_ (a' := ?_) ?_ ?_
              rotate_left
              · show Act.put _ (some 67) _ = _
                simp only [Act.put, List.setIfInBounds_toArray, List.set_cons_zero, List.set_cons_succ, i64_w, i32_w]
                rfl
              refine pure_ (i := 6) (N := some 61) (v := ?_) (a' := ?_) #[true, true, true, true, true, true, true, false, false, false, true, false, false, false] rfl rfl (any_of HT_.out (by kernel_rfl)) (fun _ _ _ h => h) (Or.inl ⟨by rfl, ?_⟩) ?_ ?_
              rotate_left
              · intro w'
                go_simp
                with_reducible rfl
              rotate_left; (simp only [Act.put, List.setIfInBounds_toArray, List.set_cons_zero, List.set_cons_succ, i64_w, i32_w]; rfl)
              refine pure_ (i := 7) (N := some 68) (v := ?_) (a' := ?_) #[true, true, true, true, true, true, true, true, false, false, true, false, false, false] rfl rfl (any_of HT_.out (by kernel_rfl)) (fun _ _ _ h => h) (Or.inl ⟨by rfl, ?_⟩) ?_ ?_
              rotate_left
              · intro w'
                go_simp
                with_reducible rfl
              rotate_left; (simp only [Act.put, List.setIfInBounds_toArray, List.set_cons_zero, List.set_cons_succ, i64_w, i32_w]; rfl)
              refine pure_ (i := 8) (N := some 69) (v := ?_) (a' := ?_) #[true, true, true, true, true, true, true, true, true, false, true, false, false, false] rfl rfl (any_of HT_.out (by kernel_rfl)) (fun _ _ _ h => h) (Or.inl ⟨by rfl, ?_⟩) ?_ ?_
              rotate_left
              · intro w'
                go_simp
                with_reducible rfl
              rotate_left; (simp only [Act.put, List.setIfInBounds_toArray, List.set_cons_zero, List.set_cons_succ, i64_w, i32_w]; rfl)
              refine pure_ (i := 9) (N := some 70) (v := ?_) (a' := ?_) (dn_ 11 14) rfl rfl (any_of HT_.out (by kernel_rfl)) (fun _ _ _ h => h) (Or.inl ⟨by rfl, ?_⟩) ?_ ?_
              rotate_left
              · intro w'
                go_simp
                with_reducible rfl
              rotate_left; (simp only [Act.put, List.setIfInBounds_toArray, List.set_cons_zero, List.set_cons_succ, i64_w, i32_w]; rfl)
              exact norm_ (by simp only [putAll, Act.put, List.setIfInBounds_toArray, List.set_cons_zero, List.set_cons_succ]) (hCont (.slice Ao48 t313.length co48, v318, gb322) _ ⟨hHeld, (by (with_reducible repeat (first | apply Kd.R_alloc | apply Kd.R_drewN | apply Kd.R_drew)); exact HO304.out), (by (with_reducible repeat (first | apply Kd.R_alloc | apply Kd.R_drewN | apply Kd.R_drew)); exact HO309.out), (by (with_reducible repeat (first | apply Kd.R_alloc | apply Kd.R_drewN | apply Kd.R_drew)); exact HO315.out), (by (with_reducible repeat (first | apply Kd.R_alloc | apply Kd.R_drewN | apply Kd.R_drew)); exact Kd.R_mono HO319.out (fun _ hk => ⟨hk.1.2, hk.2⟩)), (by (with_reducible repeat (first | refine blk_drewN ?_ _ | refine blk_drew ?_ | refine blk_alloc ?_ _)); exact BK300.out), (by (with_reducible repeat (first | refine blk_drewN ?_ _ | refine blk_drew ?_ | refine blk_alloc ?_ _)); exact BK305.out), (by (with_reducible repeat (first | refine blk_drewN ?_ _ | refine blk_drew ?_ | refine blk_alloc ?_ _)); exact BK312.out), (by (with_reducible repeat (first | refine blk_drewN ?_ _ | refine blk_drew ?_ | refine blk_alloc ?_ _)); exact BK322.out), GW322.out, GE322.out, NB300_322.out, NB322_300.out, NB305_322.out, NB322_305.out, NB312_322.out, NB322_312.out, (by repeat (with_reducible first | exact HB.out | apply pw_below_drewN | apply below_drew1 | refine below_set ?_ (Aside0.out (by assumption))))⟩)
          · skip
            refine box_step ?hg (N := 17) ?hd (cs := #[.int .i64 0, .slice none 0 0]) (t := 24) ?hr ?_; (case hd => rfl); (case hg => rfl); (case hr => first | (go_simp; done) | (go_simp; rfl))
            intro gb322 hg w46 hbox hb
            replace HO304 := rb_ HO304 hb
            replace HO309 := rb_ HO309 hb
            have BK322 := Aside0.mk (hbox)
            have GW322 := Aside0.mk ((by rw [hg]; exact (below_size (by repeat (with_reducible first | exact HB.out | apply pw_below_drewN | apply below_drew1 | refine below_set ?_ (Aside0.out (by assumption))))) : w.heap.size ≤ gb322))
            have GE322 := Aside0.mk ((by rw [hg]; exact (below_size (by repeat (with_reducible first | exact HB.out | apply pw_below_drewN | apply below_drew1 | refine below_set ?_ (Aside0.out (by assumption))))) : w.heap.size ≤ gb322))
            replace HB := Aside0.mk (below_step (by repeat (with_reducible first | exact HB.out | apply pw_below_drewN | apply below_drew1 | refine below_set ?_ (Aside0.out (by assumption)))) hb)
            have NB300_322 := Aside0.mk ((by rw [hg]; exact Nat.ne_of_lt (blk_lt BK300.out) : gb300 ≠ gb322))
            have NB322_300 := Aside0.mk ((by rw [hg]; exact Nat.ne_of_gt (blk_lt BK300.out) : gb322 ≠ gb300))
            replace BK300 := bl_ BK300 hb
            have NB305_322 := Aside0.mk ((by rw [hg]; exact Nat.ne_of_lt (blk_lt BK305.out) : gb305 ≠ gb322))
            have NB322_305 := Aside0.mk ((by rw [hg]; exact Nat.ne_of_gt (blk_lt BK305.out) : gb322 ≠ gb305))
            replace BK305 := bl_ BK305 hb
            have NB312_322 := Aside0.mk ((by rw [hg]; exact Nat.ne_of_lt (blk_lt BK312.out) : gb312 ≠ gb322))
            have NB322_312 := Aside0.mk ((by rw [hg]; exact Nat.ne_of_gt (blk_lt BK312.out) : gb322 ≠ gb312))
            replace BK312 := bl_ BK312 hb
            clear hb hbox hg
            refine hK.out _ _ ⟨(blk_cell BK305.out 0).trans rfl, (blk_cell BK305.out 1).trans rfl⟩ (fun hHeld => ?_)
            clear hK K
            refine norm_ (a' := ?_) ?_ ?_
            rotate_left
            · show Act.put _ (some 17) _ = _
              simp only [Act.put, List.setIfInBounds_toArray, List.set_cons_zero, List.set_cons_succ, i64_w, i32_w]
              rfl
            refine one_ (i := 4) (N := some 66) #[true, true, true, true, true, false, false, false, false, false, true, false, false, false] rfl rfl (one_of HT_.out (by kernel_rfl)) (by decide) (fun K hK => ?_)
            refine goes_ Try.func12 (by kernel_rfl) rfl #[.slice A4 l4.length c4] (by rfl) rfl rfl (by (try simp only [List.map_toArray, List.map_cons, List.map_nil]); first | done | rfl | (simp only [List.length_drop, List.length_take]; rfl)) ?_
            with_reducible refine (watchmanref01_OwnTexts.calls _ _ l4 t313 _ ?side1 ?side2 A18.out).mono ?_
            (case side1 => exact (Kd.C_below HR4.out HB.out))
            (case side2 => exact HC4.out)
            rintro e w47 ⟨v314, rfl, ho0, hb⟩
            refine ⟨_, rfl, ?_⟩
            replace HO304 := rb_ HO304 hb
            replace HO309 := rb_ HO309 hb
            have HO315 := Aside0.mk (Kd.R_lower ho0 (below_size (by repeat (with_reducible first | exact HB.out | apply pw_below_drewN | apply below_drew1 | refine below_set ?_ (Aside0.out (by assumption))))))
            replace BK300 := bl_ BK300 hb
            replace BK305 := bl_ BK305 hb
            replace BK312 := bl_ BK312 hb
            replace BK322 := bl_ BK322 hb
            replace HB := Aside0.mk (below_step (by repeat (with_reducible first | exact HB.out | apply pw_below_drewN | apply below_drew1 | refine below_set ?_ (Aside0.out (by assumption)))) hb)
            (try clear hb)
            (try clear hb2)
            (try clear hk)
            (try clear hi)
            (try clear ho0)
            obtain ⟨Ao48, co48, eo48⟩ := Kd.R_slice HO315.out
            (first | subst eo48 | (injection eo48 with f1_ f2_ f3_; have f4_ := f1_.symm; have f5_ := f3_.symm; clear f1_ f2_ f3_; subst f4_; subst f5_))
            refine hK.out _ _ ⟨(blk_cell BK305.out 0).trans rfl, (blk_cell BK305.out 1).trans rfl⟩ (fun hHeld => ?_)
            clear hK K
            refine norm_ (a' := ?_) ?_ ?_
            rotate_left
            · show Act.put _ (some 66) _ = _
              simp only [Act.put, List.setIfInBounds_toArray, List.set_cons_zero, List.set_cons_succ, i64_w, i32_w]
              rfl
            refine one_ (i := 5) (N := some 67) #[true, true, true, true, true, true, false, false, false, false, true, false, false, false] rfl rfl (one_of HT_.out (by kernel_rfl)) (by decide) (fun K hK => ?_)
            refine goes_ Try.func11 (by kernel_rfl) rfl #[.agg #[.int .i64 a0_0, .slice Ao33 t302.length co33], .int .i64 a1, .int .i64 a2, .slice Ao48 t313.length co48] (by rfl) rfl rfl (by (try simp only [List.map_toArray, List.map_cons, List.map_nil]); first | done | rfl | (simp only [List.length_drop, List.length_take]; rfl)) ?_
            with_reducible refine (watchmanref21_Send.calls kj6 a0_0 _ _ t302 a1 a2 _ _ t313 t316 t317 t320 t321 _ ?side1 ?side2 ?side3 ?side4 A19.out).mono ?_
            (case side1 => repeat (first | exact (Kd.R_reads' HO304.out).2.2 | (with_reducible refine Kd.C_alloc ?_ _) | (with_reducible refine Kd.C_drewN ?_ _) | (with_reducible refine Kd.C_drew ?_)))
            (case side2 => exact (Kd.R_reads' HO304.out).2.1)
            (case side3 => repeat (first | exact (Kd.R_reads' HO315.out).2.2 | (with_reducible refine Kd.C_alloc ?_ _) | (with_reducible refine Kd.C_drewN ?_ _) | (with_reducible refine Kd.C_drew ?_)))
            (case side4 => exact (Kd.R_reads' HO315.out).2.1)
            rintro e w49 ⟨v318, rfl, ho0, hb⟩
            refine ⟨_, rfl, ?_⟩
            replace HO315 := rb_ HO315 hb
            have HO319 := Aside0.mk (Kd.R_lower (Kd.R_new' (Kd.R_new' ho0 (Kd.R_lt (HO304.out))) (Kd.R_lt (HO309.out))) (below_size (by repeat (with_reducible first | exact HB.out | apply pw_below_drewN | apply below_drew1 | refine below_set ?_ (Aside0.out (by assumption))))))
            replace HO304 := Aside0.mk (Kd.R_elder' (HO304.out) (Kd.R_base ho0) hb)
            replace HO309 := Aside0.mk (Kd.R_elder' (HO309.out) (Kd.R_base ho0) hb)
            replace BK300 := bl_ BK300 hb
            replace BK305 := bl_ BK305 hb
            replace BK312 := bl_ BK312 hb
            replace BK322 := bl_ BK322 hb
            replace HB := Aside0.mk (below_step (by repeat (with_reducible first | exact HB.out | apply pw_below_drewN | apply below_drew1 | refine below_set ?_ (Aside0.out (by assumption)))) hb)
            (try clear hb)
            (try clear hb2)
            (try clear hk)
            (try clear hi)
            (try clear ho0)
            refine hK.out _ _ ⟨(blk_cell BK305.out 0).trans rfl, (blk_cell BK305.out 1).trans rfl⟩ (fun hHeld => ?_)
            clear hK K
            refine norm_ (a' := ?_) ?_ ?_
            rotate_left
            · show Act.put _ (some 67) _ = _
              simp only [Act.put, List.setIfInBounds_toArray, List.set_cons_zero, List.set_cons_succ, i64_w, i32_w]
              rfl
            refine pure_ (i := 6) (N := some 61) (v := ?_) (a' := ?_) #[true, true, true, true, true, true, true, false, false, false, true, false, false, false] rfl rfl (any_of HT_.out (by kernel_rfl)) (fun _ _ _ h => h) (Or.inl ⟨by rfl, ?_⟩) ?_ ?_
            rotate_left
            · intro w'
              go_simp
              with_reducible rfl
            rotate_left; (simp only [Act.put, List.setIfInBounds_toArray, List.set_cons_zero, List.set_cons_succ, i64_w, i32_w]; rfl)
            refine pure_ (i := 7) (N := some 68) (v := ?_) (a' := ?_) #[true, true, true, true, true, true, true, true, false, false, true, false, false, false] rfl rfl (any_of HT_.out (by kernel_rfl)) (fun _ _ _ h => h) (Or.inl ⟨by rfl, ?_⟩) ?_ ?_
            rotate_left
            · intro w'
              go_simp
              with_reducible rfl
            rotate_left; (simp only [Act.put, List.setIfInBounds_toArray, List.set_cons_zero, List.set_cons_succ, i64_w, i32_w]; rfl)
            refine pure_ (i := 8) (N := some 69) (v := ?_) (a' := ?_) #[true, true, true, true, true, true, true, true, true, false, true, false, false, false] rfl rfl (any_of HT_.out (by kernel_rfl)) (fun _ _ _ h => h) (Or.inl ⟨by rfl, ?_⟩) ?_ ?_
            rotate_left
            · intro w'
              go_simp
              with_reducible rfl
            rotate_left; (simp only [Act.put, List.setIfInBounds_toArray, List.set_cons_zero, List.set_cons_succ, i64_w, i32_w]; rfl)
            refine pure_ (i := 9) (N := some 70) (v := ?_) (a' := ?_) (dn_ 11 14) rfl rfl (any_of HT_.out (by kernel_rfl)) (fun _ _ _ h => h) (Or.inl ⟨by rfl, ?_⟩) ?_ ?_
            rotate_left
            · intro w'
              go_simp
              with_reducible rfl
            rotate_left; (simp only [Act.put, List.setIfInBounds_toArray, List.set_cons_zero, List.set_cons_succ, i64_w, i32_w]; rfl)
            exact norm_ (by simp only [putAll, Act.put, List.setIfInBounds_toArray, List.set_cons_zero, List.set_cons_succ]) (hCont (.slice Ao48 t313.length co48, v318, gb322) _ ⟨hHeld, (by (with_reducible repeat (first | apply Kd.R_alloc | apply Kd.R_drewN | apply Kd.R_drew)); exact HO304.out), (by (with_reducible repeat (first | apply Kd.R_alloc | apply Kd.R_drewN | apply Kd.R_drew)); exact HO309.out), (by (with_reducible repeat (first | apply Kd.R_alloc | apply Kd.R_drewN | apply Kd.R_drew)); exact HO315.out), (by (with_reducible repeat (first | apply Kd.R_alloc | apply Kd.R_drewN | apply Kd.R_drew)); exact Kd.R_mono HO319.out (fun _ hk => ⟨hk.1.2, hk.2⟩)), (by (with_reducible repeat (first | refine blk_drewN ?_ _ | refine blk_drew ?_ | refine blk_alloc ?_ _)); exact BK300.out), (by (with_reducible repeat (first | refine blk_drewN ?_ _ | refine blk_drew ?_ | refine blk_alloc ?_ _)); exact BK305.out), (by (with_reducible repeat (first | refine blk_drewN ?_ _ | refine blk_drew ?_ | refine blk_alloc ?_ _)); exact BK312.out), (by (with_reducible repeat (first | refine blk_drewN ?_ _ | refine blk_drew ?_ | refine blk_alloc ?_ _)); exact BK322.out), GW322.out, GE322.out, NB300_322.out, NB322_300.out, NB305_322.out, NB322_305.out, NB312_322.out, NB322_312.out, (by repeat (with_reducible first | exact HB.out | apply pw_below_drewN | apply below_drew1 | refine below_set ?_ (Aside0.out (by assumption))))⟩)
        rintro ⟨v314, v318, gb322⟩ w50 ⟨hS_, h0_, h1_, h2_, h3_, h4_, h5_, h6_, h7_, h8_, h9_, h10_, h11_, h12_, h13_, h14_, h15_, h16_⟩
        have n0_ : Aside0 (Kd.R k35 35 w50 w.heap.size (fun k_ => some k_ ≠ (.slice Ao43 t307.length co43 : Value).ownBlock ∧ some k_ ≠ (v318 : Value).ownBlock) (.slice Ao33 t302.length co33) t302) := ⟨h0_⟩
        have n1_ : Aside0 (Kd.R k35 35 w50 w.heap.size (fun k_ => some k_ ≠ (.slice Ao33 t302.length co33 : Value).ownBlock ∧ some k_ ≠ (v318 : Value).ownBlock) (.slice Ao43 t307.length co43) t307) := ⟨h1_⟩
        have n2_ : Aside0 (Kd.R Kd.string 9 w50 w.heap.size (fun _ => True) v314 t313) := ⟨h2_⟩
        have n3_ : Aside0 (Kd.R k35 35 w50 w.heap.size (fun k_ => some k_ ≠ (.slice Ao33 t302.length co33 : Value).ownBlock ∧ some k_ ≠ (.slice Ao43 t307.length co43 : Value).ownBlock) v318 t317) := ⟨h3_⟩
        have n4_ : Aside0 (w50.heap[gb300]? = some (.cells #[.int .i64 a0_0, .slice A0_1 l0_1.length c0_1] 24 (0, 0))) := ⟨h4_⟩
        have n5_ : Aside0 (w50.heap[gb305]? = some (.cells #[.int .i64 a0_0, .slice Ao33 t302.length co33] 24 (0, 0))) := ⟨h5_⟩
        have n6_ : Aside0 (w50.heap[gb312]? = some (.cells #[.int .i64 t306, .slice Ao43 t307.length co43] 24 (0, 0))) := ⟨h6_⟩
        have n7_ : Aside0 (w50.heap[gb322]? = some (.cells #[.int .i64 0, .slice none 0 0] 24 (0, 0))) := ⟨h7_⟩
        have n8_ : Aside0 (w.heap.size ≤ gb322) := ⟨h8_⟩
        have n9_ : Aside0 (w.heap.size ≤ gb322) := ⟨h9_⟩
        have n10_ : Aside0 (gb300 ≠ gb322) := ⟨h10_⟩
        have n11_ : Aside0 (gb322 ≠ gb300) := ⟨h11_⟩
        have n12_ : Aside0 (gb305 ≠ gb322) := ⟨h12_⟩
        have n13_ : Aside0 (gb322 ≠ gb305) := ⟨h13_⟩
        have n14_ : Aside0 (gb312 ≠ gb322) := ⟨h14_⟩
        have n15_ : Aside0 (gb322 ≠ gb312) := ⟨h15_⟩
        have n16_ : Aside0 (Below w.heap.size w w50) := ⟨h16_⟩
        clear HO304
        clear HO309
        clear BK300
        clear BK305
        clear BK312
        clear HB
        clear h0_ h1_ h2_ h3_ h4_ h5_ h6_ h7_ h8_ h9_ h10_ h11_ h12_ h13_ h14_ h15_ h16_
        have HO304 := n0_
        have HO309 := n1_
        have HO315 := n2_
        have HO319 := n3_
        have BK300 := n4_
        have BK305 := n5_
        have BK312 := n6_
        have BK322 := n7_
        have GW322 := n8_
        have GE322 := n9_
        have NB300_322 := n10_
        have NB322_300 := n11_
        have NB305_322 := n12_
        have NB322_305 := n13_
        have NB312_322 := n14_
        have NB322_312 := n15_
        have HB := n16_
        clear n0_ n1_ n2_ n3_ n4_ n5_ n6_ n7_ n8_ n9_ n10_ n11_ n12_ n13_ n14_ n15_ n16_
        have hHeld : w50.cell? ⟨gb305, 0, none⟩ = some (.int .i64 a0_0) ∧ w50.cell? ⟨gb305, 1, none⟩ = some (.slice Ao33 t302.length co33) := hS_
        obtain ⟨Ao52, co52, eo52⟩ := Kd.R_slice HO319.out
        (first | subst eo52 | (injection eo52 with f1_ f2_ f3_; have f4_ := f1_.symm; have f5_ := f3_.symm; clear f1_ f2_ f3_; subst f4_; subst f5_))
        refine norm_ (a' := ?_) ?_ ?_
        rotate_left; (simp only [putAll, Act.put, List.setIfInBounds_toArray, List.set_cons_zero, List.set_cons_succ]; rfl)
        refine one_ (i := 11) (N := none) (dn_ 12 14) rfl rfl (one_of HT_.out (by kernel_rfl)) (by decide) (fun K hK => ?_)
        have hs51 : w50.cell? ⟨gb322, 0, none⟩ = some (.int .i64 0) := (blk_cell BK322.out 0).trans rfl
        have hfs51 := blk_frozen BK322.out 0
        have hns51_0 := NB300_322.out
        have hns51_1 := NB305_322.out
        have hns51_2 := NB312_322.out
        have hms51_0 := NB322_300.out
        have hms51_1 := NB322_305.out
        have hms51_2 := NB322_312.out
        have hs53 : w50.cell? ⟨gb322, 1, none⟩ = some (.slice none 0 0) := (blk_cell BK322.out 1).trans rfl
        have hfs53 := blk_frozen BK322.out 1
        have hns53_0 := NB300_322.out
        have hns53_1 := NB305_322.out
        have hns53_2 := NB312_322.out
        have hms53_0 := NB322_300.out
        have hms53_1 := NB322_305.out
        have hms53_2 := NB322_312.out
        refine skip_ (w1 := ?_) (by rfl) rfl ?_ ?_
        rotate_left
        · go_simp
          rfl
        refine hK.out _ _ ⟨((cell_far (p := ⟨gb322, _, none⟩) NB305_322.out _).trans (((cell_far (p := ⟨gb322, _, none⟩) NB305_322.out _).trans (hHeld.1)))), ((cell_far (p := ⟨gb322, _, none⟩) NB305_322.out _).trans (((cell_far (p := ⟨gb322, _, none⟩) NB305_322.out _).trans (hHeld.2))))⟩ (fun hHeld => ?_)
        clear hK K
        refine pure_ (i := 12) (N := some 18) (v := ?_) (a' := ?_) (dn_ 13 14) rfl rfl (any_of HT_.out (by kernel_rfl)) (fun _ _ _ h => h) (Or.inl ⟨by rfl, ?_⟩) ?_ ?_
        rotate_left
        · intro w'
          go_simp
          with_reducible rfl
        rotate_left; (simp only [Act.put, List.setIfInBounds_toArray, List.set_cons_zero, List.set_cons_succ, i64_w, i32_w]; rfl)
        refine pure_ (i := 13) (N := some 19) (v := ?_) (a' := ?_) #[true, true, true, true, true, true, true, true, true, true, true, true, true, true] rfl rfl (any_of HT_.out (by kernel_rfl)) (fun _ _ _ h => h) (Or.inl ⟨by rfl, ?_⟩) ?_ ?_
        rotate_left
        · intro w'
          go_simp
          with_reducible rfl
        rotate_left; (simp only [Act.put, List.setIfInBounds_toArray, List.set_cons_zero, List.set_cons_succ, i64_w, i32_w]; rfl)
        refine done_ (done_of HT_.out (by kernel_rfl)) ?_
        have hcz55_0 : w50.cell? ⟨gb300, 0, none⟩ = some (.int .i64 a0_0) := (blk_cell BK300.out 0).trans rfl
        have hcz55_1 : w50.cell? ⟨gb300, 1, none⟩ = some (.slice A0_1 l0_1.length c0_1) := (blk_cell BK300.out 1).trans rfl
        go_upto_region 13 with (first | ((with_reducible refine gate_callee (f := 13) rfl ?_); refine goesL_ (some 74) rfl rfl Try.func13 (by kernel_rfl) rfl #[.agg #[.int .i64 a0_0, .slice A0_1 l0_1.length c0_1], .int .i64 a3] rfl (by (try simp only [List.map_toArray, List.map_cons, List.map_nil]); first | done | rfl | (simp only [List.length_drop, List.length_take]; rfl)) ?_; (with_reducible refine (post_Take.calls kj6 a0_0 _ _ l0_1 a3 t323 t324 t327 t328 t329 t330 t331 _ ?side1 ?side2 A20.out).mono ?_); (case side1 => exact Kd.C_below HR0_1.out (by repeat (with_reducible first | exact HB.out | apply pw_below_drewN | apply below_drew1 | refine below_set ?_ (Aside0.out (by assumption))))); (case side2 => exact HC0_1.out); rintro e w56 ⟨v325, rfl, ho0, hb⟩; refine ⟨_, rfl, ?_⟩; replace HO315 := Aside0.mk (Kd.R_below (by (with_reducible repeat (first | apply Kd.R_alloc | apply Kd.R_drewN | apply Kd.R_drew)); exact (Kd.R_mono (rf2 (Kd.R_types HO315.out BK322.out (by decide)) (fun _ hk => hk.2) (.int .i64 t316) (.slice Ao52 t317.length co52)) (fun _ h_ => h_.1))) hb); have HO326 := Aside0.mk (Kd.R_lower (Kd.R_new' (Kd.R_new' (Kd.R_new' ho0 (Kd.R_lt (by (with_reducible repeat (first | apply Kd.R_alloc | apply Kd.R_drewN | apply Kd.R_drew)); exact (Kd.R_mono (rf2 (Kd.R_types HO304.out BK322.out (by decide)) (fun _ hk => hk.2) (.int .i64 t316) (.slice Ao52 t317.length co52)) (fun _ h_ => h_.1))))) (Kd.R_lt (by (with_reducible repeat (first | apply Kd.R_alloc | apply Kd.R_drewN | apply Kd.R_drew)); exact (Kd.R_mono (rf2 (Kd.R_types HO309.out BK322.out (by decide)) (fun _ hk => hk.2) (.int .i64 t316) (.slice Ao52 t317.length co52)) (fun _ h_ => h_.1))))) (Kd.R_lt (by (with_reducible repeat (first | apply Kd.R_alloc | apply Kd.R_drewN | apply Kd.R_drew)); exact (Kd.R_mono (rf2 (Kd.R_types HO319.out BK322.out (by decide)) (fun _ hk => hk.2) (.int .i64 t316) (.slice Ao52 t317.length co52)) (fun _ h_ => h_.1))))) (below_size (by repeat (with_reducible first | exact HB.out | apply pw_below_drewN | apply below_drew1 | refine below_set ?_ (Aside0.out (by assumption)))))); replace HO304 := Aside0.mk (Kd.R_elder' (by (with_reducible repeat (first | apply Kd.R_alloc | apply Kd.R_drewN | apply Kd.R_drew)); exact (Kd.R_mono (rf2 (Kd.R_types HO304.out BK322.out (by decide)) (fun _ hk => hk.2) (.int .i64 t316) (.slice Ao52 t317.length co52)) (fun _ h_ => h_.1))) (Kd.R_base ho0) hb); replace HO309 := Aside0.mk (Kd.R_elder' (by (with_reducible repeat (first | apply Kd.R_alloc | apply Kd.R_drewN | apply Kd.R_drew)); exact (Kd.R_mono (rf2 (Kd.R_types HO309.out BK322.out (by decide)) (fun _ hk => hk.2) (.int .i64 t316) (.slice Ao52 t317.length co52)) (fun _ h_ => h_.1))) (Kd.R_base ho0) hb); replace HO319 := Aside0.mk (Kd.R_elder' (by (with_reducible repeat (first | apply Kd.R_alloc | apply Kd.R_drewN | apply Kd.R_drew)); exact (Kd.R_mono (rf2 (Kd.R_types HO319.out BK322.out (by decide)) (fun _ hk => hk.2) (.int .i64 t316) (.slice Ao52 t317.length co52)) (fun _ h_ => h_.1))) (Kd.R_base ho0) hb); replace BK300 := Aside0.mk (blk_below (g := gb300) (o := .cells #[.int .i64 a0_0, .slice A0_1 l0_1.length c0_1] 24 (0, 0)) (by refine blk_far ?_ NB300_322.out _; refine blk_far ?_ NB300_322.out _; exact BK300.out) hb); replace BK305 := Aside0.mk (blk_below (g := gb305) (o := .cells #[.int .i64 a0_0, .slice Ao33 t302.length co33] 24 (0, 0)) (by refine blk_far ?_ NB305_322.out _; refine blk_far ?_ NB305_322.out _; exact BK305.out) hb); replace BK312 := Aside0.mk (blk_below (g := gb312) (o := .cells #[.int .i64 t306, .slice Ao43 t307.length co43] 24 (0, 0)) (by refine blk_far ?_ NB312_322.out _; refine blk_far ?_ NB312_322.out _; exact BK312.out) hb); replace BK322 := Aside0.mk (blk_below (g := gb322) (o := .cells #[.int .i64 t316, .slice Ao52 t317.length co52] 24 (0, 0)) (by refine blk_put (cs := #[.int .i64 t316, .slice none 0 0]) ?_ 1 _ rfl; refine blk_put (cs := #[.int .i64 0, .slice none 0 0]) ?_ 0 _ rfl; exact BK322.out) hb); replace HB := Aside0.mk (below_step (by repeat (with_reducible first | exact HB.out | apply pw_below_drewN | apply below_drew1 | refine below_set ?_ (Aside0.out (by assumption)))) hb); (try clear hb); (try clear hb2); (try clear hk); (try clear hi); (try clear ho0)) | ((with_reducible refine gate_dst (N := 20) rfl ?_); (try (refine gate_guard (by rfl) ?_; dsimp only)); refine box_event ?hg (N := 20) ?hd (cs := #[.int .i64 0, .slice none 0 0]) (t := 24) ?hr ?_; (case hd => rfl); (case hg => rfl); (case hr => first | (go_simp; done) | (go_simp; rfl)); intro gb332 hg w57 hbox hb; replace HO304 := rb_ HO304 hb; replace HO309 := rb_ HO309 hb; replace HO315 := rb_ HO315 hb; replace HO319 := rb_ HO319 hb; replace HO326 := rb_ HO326 hb; have BK332 := Aside0.mk (hbox); have GW332 := Aside0.mk ((by rw [hg]; exact (below_size (by repeat (with_reducible first | exact HB.out | apply pw_below_drewN | apply below_drew1 | refine below_set ?_ (Aside0.out (by assumption))))) : w.heap.size ≤ gb332)); have GE332 := Aside0.mk ((by rw [hg]; exact (below_size (by repeat (with_reducible first | exact HB.out | apply pw_below_drewN | apply below_drew1 | refine below_set ?_ (Aside0.out (by assumption))))) : w.heap.size ≤ gb332)); replace HB := Aside0.mk (below_step (by repeat (with_reducible first | exact HB.out | apply pw_below_drewN | apply below_drew1 | refine below_set ?_ (Aside0.out (by assumption)))) hb); have NB300_332 := Aside0.mk ((by rw [hg]; exact Nat.ne_of_lt (blk_lt BK300.out) : gb300 ≠ gb332)); have NB332_300 := Aside0.mk ((by rw [hg]; exact Nat.ne_of_gt (blk_lt BK300.out) : gb332 ≠ gb300)); replace BK300 := bl_ BK300 hb; have NB305_332 := Aside0.mk ((by rw [hg]; exact Nat.ne_of_lt (blk_lt BK305.out) : gb305 ≠ gb332)); have NB332_305 := Aside0.mk ((by rw [hg]; exact Nat.ne_of_gt (blk_lt BK305.out) : gb332 ≠ gb305)); replace BK305 := bl_ BK305 hb; have NB312_332 := Aside0.mk ((by rw [hg]; exact Nat.ne_of_lt (blk_lt BK312.out) : gb312 ≠ gb332)); have NB332_312 := Aside0.mk ((by rw [hg]; exact Nat.ne_of_gt (blk_lt BK312.out) : gb332 ≠ gb312)); replace BK312 := bl_ BK312 hb; have NB322_332 := Aside0.mk ((by rw [hg]; exact Nat.ne_of_lt (blk_lt BK322.out) : gb322 ≠ gb332)); have NB332_322 := Aside0.mk ((by rw [hg]; exact Nat.ne_of_gt (blk_lt BK322.out) : gb332 ≠ gb322)); replace BK322 := bl_ BK322 hb; clear hb hbox hg) | ((with_reducible refine gate_dst (N := 21) rfl ?_); (try (refine gate_guard (by rfl) ?_; dsimp only)); refine box_event ?hg (N := 21) ?hd (cs := #[.int .i64 0, .int .i64 0, .int .i64 0, .string (⟨#[]⟩ : ByteArray)]) (t := 35) ?hr ?_; (case hd => rfl); (case hg => rfl); (case hr => first | (go_simp; done) | (go_simp; rfl)); intro gb333 hg w58 hbox hb; replace HO304 := Aside0.mk (Kd.R_below (Kd.R_elderB (HO304.out) gb333 (Nat.le_of_eq hg.symm)) hb); replace HO309 := Aside0.mk (Kd.R_below (Kd.R_elderB (HO309.out) gb333 (Nat.le_of_eq hg.symm)) hb); replace HO315 := rb_ HO315 hb; replace HO319 := Aside0.mk (Kd.R_below (Kd.R_elderB (HO319.out) gb333 (Nat.le_of_eq hg.symm)) hb); replace HO326 := Aside0.mk (Kd.R_below (Kd.R_elderB (HO326.out) gb333 (Nat.le_of_eq hg.symm)) hb); have BK333 := Aside0.mk (hbox); have GW333 := Aside0.mk ((by rw [hg]; exact (below_size (by repeat (with_reducible first | exact HB.out | apply pw_below_drewN | apply below_drew1 | refine below_set ?_ (Aside0.out (by assumption))))) : w.heap.size ≤ gb333)); have GE333 := Aside0.mk ((by rw [hg]; exact (below_size (by repeat (with_reducible first | exact HB.out | apply pw_below_drewN | apply below_drew1 | refine below_set ?_ (Aside0.out (by assumption))))) : w.heap.size ≤ gb333)); replace HB := Aside0.mk (below_step (by repeat (with_reducible first | exact HB.out | apply pw_below_drewN | apply below_drew1 | refine below_set ?_ (Aside0.out (by assumption)))) hb); have NB300_333 := Aside0.mk ((by rw [hg]; exact Nat.ne_of_lt (blk_lt BK300.out) : gb300 ≠ gb333)); have NB333_300 := Aside0.mk ((by rw [hg]; exact Nat.ne_of_gt (blk_lt BK300.out) : gb333 ≠ gb300)); replace BK300 := bl_ BK300 hb; have NB305_333 := Aside0.mk ((by rw [hg]; exact Nat.ne_of_lt (blk_lt BK305.out) : gb305 ≠ gb333)); have NB333_305 := Aside0.mk ((by rw [hg]; exact Nat.ne_of_gt (blk_lt BK305.out) : gb333 ≠ gb305)); replace BK305 := bl_ BK305 hb; have NB312_333 := Aside0.mk ((by rw [hg]; exact Nat.ne_of_lt (blk_lt BK312.out) : gb312 ≠ gb333)); have NB333_312 := Aside0.mk ((by rw [hg]; exact Nat.ne_of_gt (blk_lt BK312.out) : gb333 ≠ gb312)); replace BK312 := bl_ BK312 hb; have NB322_333 := Aside0.mk ((by rw [hg]; exact Nat.ne_of_lt (blk_lt BK322.out) : gb322 ≠ gb333)); have NB333_322 := Aside0.mk ((by rw [hg]; exact Nat.ne_of_gt (blk_lt BK322.out) : gb333 ≠ gb322)); replace BK322 := bl_ BK322 hb; have NB332_333 := Aside0.mk ((by rw [hg]; exact Nat.ne_of_lt (blk_lt BK332.out) : gb332 ≠ gb333)); have NB333_332 := Aside0.mk ((by rw [hg]; exact Nat.ne_of_gt (blk_lt BK332.out) : gb333 ≠ gb332)); replace BK332 := bl_ BK332 hb; clear hb hbox hg; have hnb59 := NB332_300.out; have hnc59 := NB300_332.out; have hnb60 := NB332_305.out; have hnc60 := NB305_332.out; have hnb61 := NB332_312.out; have hnc61 := NB312_332.out; have hnb62 := NB332_322.out; have hnc62 := NB322_332.out; have hnb63 := NB332_333.out; have hnc63 := NB333_332.out; have hcz64_0 : w58.cell? ⟨gb332, 0, none⟩ = some (.int .i64 0) := (blk_cell BK332.out 0).trans rfl; have hcz64_1 : w58.cell? ⟨gb332, 1, none⟩ = some (.slice none 0 0) := (blk_cell BK332.out 1).trans rfl; have hfz64_0 := blk_frozen BK332.out 0; have hfz64_1 := blk_frozen BK332.out 1; obtain ⟨Ao65, co65, eo65⟩ := Kd.R_slice HO326.out; subst eo65; have hnb66 := NB333_300.out; have hnc66 := NB300_333.out; have hnb67 := NB333_305.out; have hnc67 := NB305_333.out; have hnb68 := NB333_312.out; have hnc68 := NB312_333.out; have hnb69 := NB333_322.out; have hnc69 := NB322_333.out; have hcz70_0 : w58.cell? ⟨gb333, 0, none⟩ = some (.int .i64 0) := (blk_cell BK333.out 0).trans rfl; have hcz70_1 : w58.cell? ⟨gb333, 1, none⟩ = some (.int .i64 0) := (blk_cell BK333.out 1).trans rfl; have hcz70_2 : w58.cell? ⟨gb333, 2, none⟩ = some (.int .i64 0) := (blk_cell BK333.out 2).trans rfl; have hcz70_3 : w58.cell? ⟨gb333, 3, none⟩ = some (.string (⟨#[]⟩ : ByteArray)) := (blk_cell BK333.out 3).trans rfl; have hfz70_0 := blk_frozen BK333.out 0; have hfz70_1 := blk_frozen BK333.out 1; have hfz70_2 := blk_frozen BK333.out 2; have hfz70_3 := blk_frozen BK333.out 3; have hnb71 := NB305_322.out; have hnc71 := NB322_305.out; have hcz72_0 : w58.cell? ⟨gb305, 0, none⟩ = some (.int .i64 a0_0) := (blk_cell BK305.out 0).trans rfl; have hcz72_1 : w58.cell? ⟨gb305, 1, none⟩ = some (.slice Ao33 t302.length co33) := (blk_cell BK305.out 1).trans rfl; have hfz72_0 := blk_frozen BK305.out 0; have hfz72_1 := blk_frozen BK305.out 1) | ((with_reducible refine gate_callee (f := 14) rfl ?_); refine goesL_ (some 81) rfl rfl Try.func14 (by kernel_rfl) rfl #[.agg #[.int .i64 a0_0, .slice Ao33 t302.length co33], .int .i64 a3] rfl (by (try simp only [List.map_toArray, List.map_cons, List.map_nil]); first | done | rfl | (simp only [List.length_drop, List.length_take]; rfl)) ?_; (with_reducible refine (watchmanref21_Take.calls kj6 a0_0 _ _ t302 a3 t334 t335 t338 t339 t340 t341 t342 _ ?side1 ?side2 A21.out).mono ?_); (case side1 => refine (Kd.R_reads' (e := 35) (base := w.heap.size) (ok := fun k_ => (((some k_ ≠ (.slice Ao43 t307.length co43 : Value).ownBlock ∧ some k_ ≠ (.slice Ao52 t317.length co52 : Value).ownBlock) ∧ some k_ ≠ (.slice Ao65 t324.length co65 : Value).ownBlock) ∧ k_ ≠ gb333)) (n := t302.length) (c := co33) ?_).2.2; exact (by (with_reducible repeat (first | apply Kd.R_alloc | apply Kd.R_drewN | apply Kd.R_drew)); exact (Kd.R_mono (Kd.R_mono (rf4 (rf2 (Kd.R_mono (Kd.R_types HO304.out BK332.out (by decide)) (fun k_ hk => (⟨hk, hk.1.2⟩ : _ ∧ k_ ≠ gb333))) (fun _ hk => hk.1.2) (.int .i64 t323) (.slice Ao65 t324.length co65)) (fun _ hk => hk.2) (.int .i64 t327) (.int .i64 t328) (.int .i64 t329) (.string t330)) (fun _ h_ => h_.1)) (fun _ h_ => h_.1)))); (case side2 => exact (Kd.R_reads' HO304.out).2.1); rintro e w73 ⟨v336, rfl, ho0, hb⟩; refine ⟨_, rfl, ?_⟩; replace HO315 := Aside0.mk (Kd.R_below (by (with_reducible repeat (first | apply Kd.R_alloc | apply Kd.R_drewN | apply Kd.R_drew)); exact (Kd.R_mono (Kd.R_mono (rf4 (rf2 (Kd.R_types (Kd.R_types HO315.out BK332.out (by decide)) BK333.out (by decide)) (fun _ hk => hk.1.2) (.int .i64 t323) (.slice Ao65 t324.length co65)) (fun _ hk => hk.2) (.int .i64 t327) (.int .i64 t328) (.int .i64 t329) (.string t330)) (fun _ h_ => h_.1)) (fun _ h_ => h_.1))) hb); have HO337 := Aside0.mk (Kd.R_lower (Kd.R_newB (Kd.R_new' (Kd.R_new' (Kd.R_new' (Kd.R_new' ho0 (Kd.R_lt (by (with_reducible repeat (first | apply Kd.R_alloc | apply Kd.R_drewN | apply Kd.R_drew)); exact (Kd.R_mono (Kd.R_mono (rf4 (rf2 (Kd.R_mono (Kd.R_types HO304.out BK332.out (by decide)) (fun k_ hk => (⟨hk, hk.1.2⟩ : _ ∧ k_ ≠ gb333))) (fun _ hk => hk.1.2) (.int .i64 t323) (.slice Ao65 t324.length co65)) (fun _ hk => hk.2) (.int .i64 t327) (.int .i64 t328) (.int .i64 t329) (.string t330)) (fun _ h_ => h_.1)) (fun _ h_ => h_.1))))) (Kd.R_lt (by (with_reducible repeat (first | apply Kd.R_alloc | apply Kd.R_drewN | apply Kd.R_drew)); exact (Kd.R_mono (Kd.R_mono (rf4 (rf2 (Kd.R_mono (Kd.R_types HO309.out BK332.out (by decide)) (fun k_ hk => (⟨hk, hk.1.2⟩ : _ ∧ k_ ≠ gb333))) (fun _ hk => hk.1.2) (.int .i64 t323) (.slice Ao65 t324.length co65)) (fun _ hk => hk.2) (.int .i64 t327) (.int .i64 t328) (.int .i64 t329) (.string t330)) (fun _ h_ => h_.1)) (fun _ h_ => h_.1))))) (Kd.R_lt (by (with_reducible repeat (first | apply Kd.R_alloc | apply Kd.R_drewN | apply Kd.R_drew)); exact (Kd.R_mono (Kd.R_mono (rf4 (rf2 (Kd.R_mono (Kd.R_types HO319.out BK332.out (by decide)) (fun k_ hk => (⟨hk, hk.1.2⟩ : _ ∧ k_ ≠ gb333))) (fun _ hk => hk.1.2) (.int .i64 t323) (.slice Ao65 t324.length co65)) (fun _ hk => hk.2) (.int .i64 t327) (.int .i64 t328) (.int .i64 t329) (.string t330)) (fun _ h_ => h_.1)) (fun _ h_ => h_.1))))) (Kd.R_lt (by (with_reducible repeat (first | apply Kd.R_alloc | apply Kd.R_drewN | apply Kd.R_drew)); exact (Kd.R_mono (Kd.R_mono (rf4 (rf2 (Kd.R_mono (Kd.R_types HO326.out BK332.out (by decide)) (fun k_ hk => (⟨hk, hk.1.2⟩ : _ ∧ k_ ≠ gb333))) (fun _ hk => hk.1.2) (.int .i64 t323) (.slice Ao65 t324.length co65)) (fun _ hk => hk.2) (.int .i64 t327) (.int .i64 t328) (.int .i64 t329) (.string t330)) (fun _ h_ => h_.1)) (fun _ h_ => h_.1))))) (g := gb333) (o := .cells #[.int .i64 t327, .int .i64 t328, .int .i64 t329, .string t330] 35 (0, 0)) (by refine blk_put (cs := #[.int .i64 t327, .int .i64 t328, .int .i64 t329, .string (⟨#[]⟩ : ByteArray)]) ?_ 3 _ rfl; refine blk_put (cs := #[.int .i64 t327, .int .i64 t328, .int .i64 0, .string (⟨#[]⟩ : ByteArray)]) ?_ 2 _ rfl; refine blk_put (cs := #[.int .i64 t327, .int .i64 0, .int .i64 0, .string (⟨#[]⟩ : ByteArray)]) ?_ 1 _ rfl; refine blk_put (cs := #[.int .i64 0, .int .i64 0, .int .i64 0, .string (⟨#[]⟩ : ByteArray)]) ?_ 0 _ rfl; refine blk_far ?_ NB333_332.out _; refine blk_far ?_ NB333_332.out _; exact BK333.out)) (below_size (by repeat (with_reducible first | exact HB.out | apply pw_below_drewN | apply below_drew1 | refine below_set ?_ (Aside0.out (by assumption)))))); replace HO304 := Aside0.mk (Kd.R_elder' (by (with_reducible repeat (first | apply Kd.R_alloc | apply Kd.R_drewN | apply Kd.R_drew)); exact (Kd.R_mono (Kd.R_mono (rf4 (rf2 (Kd.R_mono (Kd.R_types HO304.out BK332.out (by decide)) (fun k_ hk => (⟨hk, hk.1.2⟩ : _ ∧ k_ ≠ gb333))) (fun _ hk => hk.1.2) (.int .i64 t323) (.slice Ao65 t324.length co65)) (fun _ hk => hk.2) (.int .i64 t327) (.int .i64 t328) (.int .i64 t329) (.string t330)) (fun _ h_ => h_.1)) (fun _ h_ => h_.1))) (Kd.R_base ho0) hb); replace HO309 := Aside0.mk (Kd.R_elder' (by (with_reducible repeat (first | apply Kd.R_alloc | apply Kd.R_drewN | apply Kd.R_drew)); exact (Kd.R_mono (Kd.R_mono (rf4 (rf2 (Kd.R_mono (Kd.R_types HO309.out BK332.out (by decide)) (fun k_ hk => (⟨hk, hk.1.2⟩ : _ ∧ k_ ≠ gb333))) (fun _ hk => hk.1.2) (.int .i64 t323) (.slice Ao65 t324.length co65)) (fun _ hk => hk.2) (.int .i64 t327) (.int .i64 t328) (.int .i64 t329) (.string t330)) (fun _ h_ => h_.1)) (fun _ h_ => h_.1))) (Kd.R_base ho0) hb); replace HO319 := Aside0.mk (Kd.R_elder' (by (with_reducible repeat (first | apply Kd.R_alloc | apply Kd.R_drewN | apply Kd.R_drew)); exact (Kd.R_mono (Kd.R_mono (rf4 (rf2 (Kd.R_mono (Kd.R_types HO319.out BK332.out (by decide)) (fun k_ hk => (⟨hk, hk.1.2⟩ : _ ∧ k_ ≠ gb333))) (fun _ hk => hk.1.2) (.int .i64 t323) (.slice Ao65 t324.length co65)) (fun _ hk => hk.2) (.int .i64 t327) (.int .i64 t328) (.int .i64 t329) (.string t330)) (fun _ h_ => h_.1)) (fun _ h_ => h_.1))) (Kd.R_base ho0) hb); replace HO326 := Aside0.mk (Kd.R_elder' (by (with_reducible repeat (first | apply Kd.R_alloc | apply Kd.R_drewN | apply Kd.R_drew)); exact (Kd.R_mono (Kd.R_mono (rf4 (rf2 (Kd.R_mono (Kd.R_types HO326.out BK332.out (by decide)) (fun k_ hk => (⟨hk, hk.1.2⟩ : _ ∧ k_ ≠ gb333))) (fun _ hk => hk.1.2) (.int .i64 t323) (.slice Ao65 t324.length co65)) (fun _ hk => hk.2) (.int .i64 t327) (.int .i64 t328) (.int .i64 t329) (.string t330)) (fun _ h_ => h_.1)) (fun _ h_ => h_.1))) (Kd.R_base ho0) hb); replace BK300 := Aside0.mk (blk_below (g := gb300) (o := .cells #[.int .i64 a0_0, .slice A0_1 l0_1.length c0_1] 24 (0, 0)) (by refine blk_far ?_ NB300_333.out _; refine blk_far ?_ NB300_333.out _; refine blk_far ?_ NB300_333.out _; refine blk_far ?_ NB300_333.out _; refine blk_far ?_ NB300_332.out _; refine blk_far ?_ NB300_332.out _; exact BK300.out) hb); replace BK305 := Aside0.mk (blk_below (g := gb305) (o := .cells #[.int .i64 a0_0, .slice Ao33 t302.length co33] 24 (0, 0)) (by refine blk_far ?_ NB305_333.out _; refine blk_far ?_ NB305_333.out _; refine blk_far ?_ NB305_333.out _; refine blk_far ?_ NB305_333.out _; refine blk_far ?_ NB305_332.out _; refine blk_far ?_ NB305_332.out _; exact BK305.out) hb); replace BK312 := Aside0.mk (blk_below (g := gb312) (o := .cells #[.int .i64 t306, .slice Ao43 t307.length co43] 24 (0, 0)) (by refine blk_far ?_ NB312_333.out _; refine blk_far ?_ NB312_333.out _; refine blk_far ?_ NB312_333.out _; refine blk_far ?_ NB312_333.out _; refine blk_far ?_ NB312_332.out _; refine blk_far ?_ NB312_332.out _; exact BK312.out) hb); replace BK322 := Aside0.mk (blk_below (g := gb322) (o := .cells #[.int .i64 t316, .slice Ao52 t317.length co52] 24 (0, 0)) (by refine blk_far ?_ NB322_333.out _; refine blk_far ?_ NB322_333.out _; refine blk_far ?_ NB322_333.out _; refine blk_far ?_ NB322_333.out _; refine blk_far ?_ NB322_332.out _; refine blk_far ?_ NB322_332.out _; exact BK322.out) hb); replace BK332 := Aside0.mk (blk_below (g := gb332) (o := .cells #[.int .i64 t323, .slice Ao65 t324.length co65] 24 (0, 0)) (by refine blk_far ?_ NB332_333.out _; refine blk_far ?_ NB332_333.out _; refine blk_far ?_ NB332_333.out _; refine blk_far ?_ NB332_333.out _; refine blk_put (cs := #[.int .i64 t323, .slice none 0 0]) ?_ 1 _ rfl; refine blk_put (cs := #[.int .i64 0, .slice none 0 0]) ?_ 0 _ rfl; exact BK332.out) hb); replace BK333 := Aside0.mk (blk_below (g := gb333) (o := .cells #[.int .i64 t327, .int .i64 t328, .int .i64 t329, .string t330] 35 (0, 0)) (by refine blk_put (cs := #[.int .i64 t327, .int .i64 t328, .int .i64 t329, .string (⟨#[]⟩ : ByteArray)]) ?_ 3 _ rfl; refine blk_put (cs := #[.int .i64 t327, .int .i64 t328, .int .i64 0, .string (⟨#[]⟩ : ByteArray)]) ?_ 2 _ rfl; refine blk_put (cs := #[.int .i64 t327, .int .i64 0, .int .i64 0, .string (⟨#[]⟩ : ByteArray)]) ?_ 1 _ rfl; refine blk_put (cs := #[.int .i64 0, .int .i64 0, .int .i64 0, .string (⟨#[]⟩ : ByteArray)]) ?_ 0 _ rfl; refine blk_far ?_ NB333_332.out _; refine blk_far ?_ NB333_332.out _; exact BK333.out) hb); replace HB := Aside0.mk (below_step (by repeat (with_reducible first | exact HB.out | apply pw_below_drewN | apply below_drew1 | refine below_set ?_ (Aside0.out (by assumption)))) hb); (try clear hb); (try clear hb2); (try clear hk); (try clear hi); (try clear ho0)) | ((with_reducible refine gate_dst (N := 23) rfl ?_); (try (refine gate_guard (by rfl) ?_; dsimp only)); refine box_event ?hg (N := 23) ?hd (cs := #[.int .i64 0, .slice none 0 0]) (t := 24) ?hr ?_; (case hd => rfl); (case hg => rfl); (case hr => first | (go_simp; done) | (go_simp; rfl)); intro gb343 hg w74 hbox hb; replace HO304 := rb_ HO304 hb; replace HO309 := rb_ HO309 hb; replace HO315 := rb_ HO315 hb; replace HO319 := rb_ HO319 hb; replace HO326 := rb_ HO326 hb; replace HO337 := rb_ HO337 hb; have BK343 := Aside0.mk (hbox); have GW343 := Aside0.mk ((by rw [hg]; exact (below_size (by repeat (with_reducible first | exact HB.out | apply pw_below_drewN | apply below_drew1 | refine below_set ?_ (Aside0.out (by assumption))))) : w.heap.size ≤ gb343)); have GE343 := Aside0.mk ((by rw [hg]; exact (below_size (by repeat (with_reducible first | exact HB.out | apply pw_below_drewN | apply below_drew1 | refine below_set ?_ (Aside0.out (by assumption))))) : w.heap.size ≤ gb343)); replace HB := Aside0.mk (below_step (by repeat (with_reducible first | exact HB.out | apply pw_below_drewN | apply below_drew1 | refine below_set ?_ (Aside0.out (by assumption)))) hb); have NB300_343 := Aside0.mk ((by rw [hg]; exact Nat.ne_of_lt (blk_lt BK300.out) : gb300 ≠ gb343)); have NB343_300 := Aside0.mk ((by rw [hg]; exact Nat.ne_of_gt (blk_lt BK300.out) : gb343 ≠ gb300)); replace BK300 := bl_ BK300 hb; have NB305_343 := Aside0.mk ((by rw [hg]; exact Nat.ne_of_lt (blk_lt BK305.out) : gb305 ≠ gb343)); have NB343_305 := Aside0.mk ((by rw [hg]; exact Nat.ne_of_gt (blk_lt BK305.out) : gb343 ≠ gb305)); replace BK305 := bl_ BK305 hb; have NB312_343 := Aside0.mk ((by rw [hg]; exact Nat.ne_of_lt (blk_lt BK312.out) : gb312 ≠ gb343)); have NB343_312 := Aside0.mk ((by rw [hg]; exact Nat.ne_of_gt (blk_lt BK312.out) : gb343 ≠ gb312)); replace BK312 := bl_ BK312 hb; have NB322_343 := Aside0.mk ((by rw [hg]; exact Nat.ne_of_lt (blk_lt BK322.out) : gb322 ≠ gb343)); have NB343_322 := Aside0.mk ((by rw [hg]; exact Nat.ne_of_gt (blk_lt BK322.out) : gb343 ≠ gb322)); replace BK322 := bl_ BK322 hb; have NB332_343 := Aside0.mk ((by rw [hg]; exact Nat.ne_of_lt (blk_lt BK332.out) : gb332 ≠ gb343)); have NB343_332 := Aside0.mk ((by rw [hg]; exact Nat.ne_of_gt (blk_lt BK332.out) : gb343 ≠ gb332)); replace BK332 := bl_ BK332 hb; have NB333_343 := Aside0.mk ((by rw [hg]; exact Nat.ne_of_lt (blk_lt BK333.out) : gb333 ≠ gb343)); have NB343_333 := Aside0.mk ((by rw [hg]; exact Nat.ne_of_gt (blk_lt BK333.out) : gb343 ≠ gb333)); replace BK333 := bl_ BK333 hb; clear hb hbox hg) | ((with_reducible refine gate_dst (N := 24) rfl ?_); (try (refine gate_guard (by rfl) ?_; dsimp only)); refine box_event ?hg (N := 24) ?hd (cs := #[.int .i64 0, .int .i64 0, .int .i64 0, .string (⟨#[]⟩ : ByteArray)]) (t := 35) ?hr ?_; (case hd => rfl); (case hg => rfl); (case hr => first | (go_simp; done) | (go_simp; rfl)); intro gb344 hg w75 hbox hb; replace HO304 := Aside0.mk (Kd.R_below (Kd.R_elderB (HO304.out) gb344 (Nat.le_of_eq hg.symm)) hb); replace HO309 := Aside0.mk (Kd.R_below (Kd.R_elderB (HO309.out) gb344 (Nat.le_of_eq hg.symm)) hb); replace HO315 := rb_ HO315 hb; replace HO319 := Aside0.mk (Kd.R_below (Kd.R_elderB (HO319.out) gb344 (Nat.le_of_eq hg.symm)) hb); replace HO326 := Aside0.mk (Kd.R_below (Kd.R_elderB (HO326.out) gb344 (Nat.le_of_eq hg.symm)) hb); replace HO337 := Aside0.mk (Kd.R_below (Kd.R_elderB (HO337.out) gb344 (Nat.le_of_eq hg.symm)) hb); have BK344 := Aside0.mk (hbox); have GW344 := Aside0.mk ((by rw [hg]; exact (below_size (by repeat (with_reducible first | exact HB.out | apply pw_below_drewN | apply below_drew1 | refine below_set ?_ (Aside0.out (by assumption))))) : w.heap.size ≤ gb344)); have GE344 := Aside0.mk ((by rw [hg]; exact (below_size (by repeat (with_reducible first | exact HB.out | apply pw_below_drewN | apply below_drew1 | refine below_set ?_ (Aside0.out (by assumption))))) : w.heap.size ≤ gb344)); replace HB := Aside0.mk (below_step (by repeat (with_reducible first | exact HB.out | apply pw_below_drewN | apply below_drew1 | refine below_set ?_ (Aside0.out (by assumption)))) hb); have NB300_344 := Aside0.mk ((by rw [hg]; exact Nat.ne_of_lt (blk_lt BK300.out) : gb300 ≠ gb344)); have NB344_300 := Aside0.mk ((by rw [hg]; exact Nat.ne_of_gt (blk_lt BK300.out) : gb344 ≠ gb300)); replace BK300 := bl_ BK300 hb; have NB305_344 := Aside0.mk ((by rw [hg]; exact Nat.ne_of_lt (blk_lt BK305.out) : gb305 ≠ gb344)); have NB344_305 := Aside0.mk ((by rw [hg]; exact Nat.ne_of_gt (blk_lt BK305.out) : gb344 ≠ gb305)); replace BK305 := bl_ BK305 hb; have NB312_344 := Aside0.mk ((by rw [hg]; exact Nat.ne_of_lt (blk_lt BK312.out) : gb312 ≠ gb344)); have NB344_312 := Aside0.mk ((by rw [hg]; exact Nat.ne_of_gt (blk_lt BK312.out) : gb344 ≠ gb312)); replace BK312 := bl_ BK312 hb; have NB322_344 := Aside0.mk ((by rw [hg]; exact Nat.ne_of_lt (blk_lt BK322.out) : gb322 ≠ gb344)); have NB344_322 := Aside0.mk ((by rw [hg]; exact Nat.ne_of_gt (blk_lt BK322.out) : gb344 ≠ gb322)); replace BK322 := bl_ BK322 hb; have NB332_344 := Aside0.mk ((by rw [hg]; exact Nat.ne_of_lt (blk_lt BK332.out) : gb332 ≠ gb344)); have NB344_332 := Aside0.mk ((by rw [hg]; exact Nat.ne_of_gt (blk_lt BK332.out) : gb344 ≠ gb332)); replace BK332 := bl_ BK332 hb; have NB333_344 := Aside0.mk ((by rw [hg]; exact Nat.ne_of_lt (blk_lt BK333.out) : gb333 ≠ gb344)); have NB344_333 := Aside0.mk ((by rw [hg]; exact Nat.ne_of_gt (blk_lt BK333.out) : gb344 ≠ gb333)); replace BK333 := bl_ BK333 hb; have NB343_344 := Aside0.mk ((by rw [hg]; exact Nat.ne_of_lt (blk_lt BK343.out) : gb343 ≠ gb344)); have NB344_343 := Aside0.mk ((by rw [hg]; exact Nat.ne_of_gt (blk_lt BK343.out) : gb344 ≠ gb343)); replace BK343 := bl_ BK343 hb; clear hb hbox hg; have hnb76 := NB343_300.out; have hnc76 := NB300_343.out; have hnb77 := NB343_305.out; have hnc77 := NB305_343.out; have hnb78 := NB343_312.out; have hnc78 := NB312_343.out; have hnb79 := NB343_322.out; have hnc79 := NB322_343.out; have hnb80 := NB343_332.out; have hnc80 := NB332_343.out; have hnb81 := NB343_333.out; have hnc81 := NB333_343.out; have hnb82 := NB343_344.out; have hnc82 := NB344_343.out; have hcz83_0 : w75.cell? ⟨gb343, 0, none⟩ = some (.int .i64 0) := (blk_cell BK343.out 0).trans rfl; have hcz83_1 : w75.cell? ⟨gb343, 1, none⟩ = some (.slice none 0 0) := (blk_cell BK343.out 1).trans rfl; have hfz83_0 := blk_frozen BK343.out 0; have hfz83_1 := blk_frozen BK343.out 1; obtain ⟨Ao84, co84, eo84⟩ := Kd.R_slice HO337.out; subst eo84; have hnb85 := NB344_300.out; have hnc85 := NB300_344.out; have hnb86 := NB344_305.out; have hnc86 := NB305_344.out; have hnb87 := NB344_312.out; have hnc87 := NB312_344.out; have hnb88 := NB344_322.out; have hnc88 := NB322_344.out; have hnb89 := NB344_332.out; have hnc89 := NB332_344.out; have hnb90 := NB344_333.out; have hnc90 := NB333_344.out; have hcz91_0 : w75.cell? ⟨gb344, 0, none⟩ = some (.int .i64 0) := (blk_cell BK344.out 0).trans rfl; have hcz91_1 : w75.cell? ⟨gb344, 1, none⟩ = some (.int .i64 0) := (blk_cell BK344.out 1).trans rfl; have hcz91_2 : w75.cell? ⟨gb344, 2, none⟩ = some (.int .i64 0) := (blk_cell BK344.out 2).trans rfl; have hcz91_3 : w75.cell? ⟨gb344, 3, none⟩ = some (.string (⟨#[]⟩ : ByteArray)) := (blk_cell BK344.out 3).trans rfl; have hfz91_0 := blk_frozen BK344.out 0; have hfz91_1 := blk_frozen BK344.out 1; have hfz91_2 := blk_frozen BK344.out 2; have hfz91_3 := blk_frozen BK344.out 3; have hcz92_0 : w75.cell? ⟨gb300, 0, none⟩ = some (.int .i64 a0_0) := (blk_cell BK300.out 0).trans rfl; have hcz92_1 : w75.cell? ⟨gb300, 1, none⟩ = some (.slice A0_1 l0_1.length c0_1) := (blk_cell BK300.out 1).trans rfl; have hfz92_0 := blk_frozen BK300.out 0; have hfz92_1 := blk_frozen BK300.out 1) | ((with_reducible refine gate_callee (f := 15) rfl ?_); refine goesL_ (some 88) rfl rfl Try.func15 (by kernel_rfl) rfl #[.agg #[.int .i64 a0_0, .slice A0_1 l0_1.length c0_1], .int .i64 a3] rfl (by (try simp only [List.map_toArray, List.map_cons, List.map_nil]); first | done | rfl | (simp only [List.length_drop, List.length_take]; rfl)) ?_; (with_reducible refine (post_Again.calls kj6 a0_0 _ _ l0_1 a3 t345 t346 t349 t350 _ ?side1 ?side2 A22.out).mono ?_); (case side1 => exact Kd.C_below HR0_1.out (by repeat (with_reducible first | exact HB.out | apply pw_below_drewN | apply below_drew1 | refine below_set ?_ (Aside0.out (by assumption))))); (case side2 => exact HC0_1.out); rintro e w93 ⟨v347, rfl, ho0, hb⟩; refine ⟨_, rfl, ?_⟩; replace HO315 := Aside0.mk (Kd.R_below (by (with_reducible repeat (first | apply Kd.R_alloc | apply Kd.R_drewN | apply Kd.R_drew)); exact (Kd.R_mono (Kd.R_mono (rf4 (rf2 (Kd.R_types (Kd.R_types HO315.out BK343.out (by decide)) BK344.out (by decide)) (fun _ hk => hk.1.2) (.int .i64 t334) (.slice Ao84 t335.length co84)) (fun _ hk => hk.2) (.int .i64 t338) (.int .i64 t339) (.int .i64 t340) (.string t341)) (fun _ h_ => h_.1)) (fun _ h_ => h_.1))) hb); have HO348 := Aside0.mk (Kd.R_lower (Kd.R_newB (Kd.R_newB (Kd.R_new' (Kd.R_new' (Kd.R_new' (Kd.R_new' (Kd.R_new' ho0 (Kd.R_lt (by (with_reducible repeat (first | apply Kd.R_alloc | apply Kd.R_drewN | apply Kd.R_drew)); exact (Kd.R_mono (Kd.R_mono (rf4 (rf2 (Kd.R_mono (Kd.R_types HO304.out BK343.out (by decide)) (fun k_ hk => (⟨hk, hk.1.2⟩ : _ ∧ k_ ≠ gb344))) (fun _ hk => hk.1.2) (.int .i64 t334) (.slice Ao84 t335.length co84)) (fun _ hk => hk.2) (.int .i64 t338) (.int .i64 t339) (.int .i64 t340) (.string t341)) (fun _ h_ => h_.1)) (fun _ h_ => h_.1))))) (Kd.R_lt (by (with_reducible repeat (first | apply Kd.R_alloc | apply Kd.R_drewN | apply Kd.R_drew)); exact (Kd.R_mono (Kd.R_mono (rf4 (rf2 (Kd.R_mono (Kd.R_types HO309.out BK343.out (by decide)) (fun k_ hk => (⟨hk, hk.1.2⟩ : _ ∧ k_ ≠ gb344))) (fun _ hk => hk.1.2) (.int .i64 t334) (.slice Ao84 t335.length co84)) (fun _ hk => hk.2) (.int .i64 t338) (.int .i64 t339) (.int .i64 t340) (.string t341)) (fun _ h_ => h_.1)) (fun _ h_ => h_.1))))) (Kd.R_lt (by (with_reducible repeat (first | apply Kd.R_alloc | apply Kd.R_drewN | apply Kd.R_drew)); exact (Kd.R_mono (Kd.R_mono (rf4 (rf2 (Kd.R_mono (Kd.R_types HO319.out BK343.out (by decide)) (fun k_ hk => (⟨hk, hk.1.2⟩ : _ ∧ k_ ≠ gb344))) (fun _ hk => hk.1.2) (.int .i64 t334) (.slice Ao84 t335.length co84)) (fun _ hk => hk.2) (.int .i64 t338) (.int .i64 t339) (.int .i64 t340) (.string t341)) (fun _ h_ => h_.1)) (fun _ h_ => h_.1))))) (Kd.R_lt (by (with_reducible repeat (first | apply Kd.R_alloc | apply Kd.R_drewN | apply Kd.R_drew)); exact (Kd.R_mono (Kd.R_mono (rf4 (rf2 (Kd.R_mono (Kd.R_types HO326.out BK343.out (by decide)) (fun k_ hk => (⟨hk, hk.1.2⟩ : _ ∧ k_ ≠ gb344))) (fun _ hk => hk.1.2) (.int .i64 t334) (.slice Ao84 t335.length co84)) (fun _ hk => hk.2) (.int .i64 t338) (.int .i64 t339) (.int .i64 t340) (.string t341)) (fun _ h_ => h_.1)) (fun _ h_ => h_.1))))) (Kd.R_lt (by (with_reducible repeat (first | apply Kd.R_alloc | apply Kd.R_drewN | apply Kd.R_drew)); exact (Kd.R_mono (Kd.R_mono (rf4 (rf2 (Kd.R_mono (Kd.R_types HO337.out BK343.out (by decide)) (fun k_ hk => (⟨hk, hk.1.2⟩ : _ ∧ k_ ≠ gb344))) (fun _ hk => hk.1.2) (.int .i64 t334) (.slice Ao84 t335.length co84)) (fun _ hk => hk.2) (.int .i64 t338) (.int .i64 t339) (.int .i64 t340) (.string t341)) (fun _ h_ => h_.1)) (fun _ h_ => h_.1))))) (g := gb333) (o := .cells #[.int .i64 t327, .int .i64 t328, .int .i64 t329, .string t330] 35 (0, 0)) (by refine blk_far ?_ NB333_344.out _; refine blk_far ?_ NB333_344.out _; refine blk_far ?_ NB333_344.out _; refine blk_far ?_ NB333_344.out _; refine blk_far ?_ NB333_343.out _; refine blk_far ?_ NB333_343.out _; exact BK333.out)) (g := gb344) (o := .cells #[.int .i64 t338, .int .i64 t339, .int .i64 t340, .string t341] 35 (0, 0)) (by refine blk_put (cs := #[.int .i64 t338, .int .i64 t339, .int .i64 t340, .string (⟨#[]⟩ : ByteArray)]) ?_ 3 _ rfl; refine blk_put (cs := #[.int .i64 t338, .int .i64 t339, .int .i64 0, .string (⟨#[]⟩ : ByteArray)]) ?_ 2 _ rfl; refine blk_put (cs := #[.int .i64 t338, .int .i64 0, .int .i64 0, .string (⟨#[]⟩ : ByteArray)]) ?_ 1 _ rfl; refine blk_put (cs := #[.int .i64 0, .int .i64 0, .int .i64 0, .string (⟨#[]⟩ : ByteArray)]) ?_ 0 _ rfl; refine blk_far ?_ NB344_343.out _; refine blk_far ?_ NB344_343.out _; exact BK344.out)) (below_size (by repeat (with_reducible first | exact HB.out | apply pw_below_drewN | apply below_drew1 | refine below_set ?_ (Aside0.out (by assumption)))))); replace HO304 := Aside0.mk (Kd.R_elder' (by (with_reducible repeat (first | apply Kd.R_alloc | apply Kd.R_drewN | apply Kd.R_drew)); exact (Kd.R_mono (Kd.R_mono (rf4 (rf2 (Kd.R_mono (Kd.R_types HO304.out BK343.out (by decide)) (fun k_ hk => (⟨hk, hk.1.2⟩ : _ ∧ k_ ≠ gb344))) (fun _ hk => hk.1.2) (.int .i64 t334) (.slice Ao84 t335.length co84)) (fun _ hk => hk.2) (.int .i64 t338) (.int .i64 t339) (.int .i64 t340) (.string t341)) (fun _ h_ => h_.1)) (fun _ h_ => h_.1))) (Kd.R_base ho0) hb); replace HO309 := Aside0.mk (Kd.R_elder' (by (with_reducible repeat (first | apply Kd.R_alloc | apply Kd.R_drewN | apply Kd.R_drew)); exact (Kd.R_mono (Kd.R_mono (rf4 (rf2 (Kd.R_mono (Kd.R_types HO309.out BK343.out (by decide)) (fun k_ hk => (⟨hk, hk.1.2⟩ : _ ∧ k_ ≠ gb344))) (fun _ hk => hk.1.2) (.int .i64 t334) (.slice Ao84 t335.length co84)) (fun _ hk => hk.2) (.int .i64 t338) (.int .i64 t339) (.int .i64 t340) (.string t341)) (fun _ h_ => h_.1)) (fun _ h_ => h_.1))) (Kd.R_base ho0) hb); replace HO319 := Aside0.mk (Kd.R_elder' (by (with_reducible repeat (first | apply Kd.R_alloc | apply Kd.R_drewN | apply Kd.R_drew)); exact (Kd.R_mono (Kd.R_mono (rf4 (rf2 (Kd.R_mono (Kd.R_types HO319.out BK343.out (by decide)) (fun k_ hk => (⟨hk, hk.1.2⟩ : _ ∧ k_ ≠ gb344))) (fun _ hk => hk.1.2) (.int .i64 t334) (.slice Ao84 t335.length co84)) (fun _ hk => hk.2) (.int .i64 t338) (.int .i64 t339) (.int .i64 t340) (.string t341)) (fun _ h_ => h_.1)) (fun _ h_ => h_.1))) (Kd.R_base ho0) hb); replace HO326 := Aside0.mk (Kd.R_elder' (by (with_reducible repeat (first | apply Kd.R_alloc | apply Kd.R_drewN | apply Kd.R_drew)); exact (Kd.R_mono (Kd.R_mono (rf4 (rf2 (Kd.R_mono (Kd.R_types HO326.out BK343.out (by decide)) (fun k_ hk => (⟨hk, hk.1.2⟩ : _ ∧ k_ ≠ gb344))) (fun _ hk => hk.1.2) (.int .i64 t334) (.slice Ao84 t335.length co84)) (fun _ hk => hk.2) (.int .i64 t338) (.int .i64 t339) (.int .i64 t340) (.string t341)) (fun _ h_ => h_.1)) (fun _ h_ => h_.1))) (Kd.R_base ho0) hb); replace HO337 := Aside0.mk (Kd.R_elder' (by (with_reducible repeat (first | apply Kd.R_alloc | apply Kd.R_drewN | apply Kd.R_drew)); exact (Kd.R_mono (Kd.R_mono (rf4 (rf2 (Kd.R_mono (Kd.R_types HO337.out BK343.out (by decide)) (fun k_ hk => (⟨hk, hk.1.2⟩ : _ ∧ k_ ≠ gb344))) (fun _ hk => hk.1.2) (.int .i64 t334) (.slice Ao84 t335.length co84)) (fun _ hk => hk.2) (.int .i64 t338) (.int .i64 t339) (.int .i64 t340) (.string t341)) (fun _ h_ => h_.1)) (fun _ h_ => h_.1))) (Kd.R_base ho0) hb); replace BK300 := Aside0.mk (blk_below (g := gb300) (o := .cells #[.int .i64 a0_0, .slice A0_1 l0_1.length c0_1] 24 (0, 0)) (by refine blk_far ?_ NB300_344.out _; refine blk_far ?_ NB300_344.out _; refine blk_far ?_ NB300_344.out _; refine blk_far ?_ NB300_344.out _; refine blk_far ?_ NB300_343.out _; refine blk_far ?_ NB300_343.out _; exact BK300.out) hb); replace BK305 := Aside0.mk (blk_below (g := gb305) (o := .cells #[.int .i64 a0_0, .slice Ao33 t302.length co33] 24 (0, 0)) (by refine blk_far ?_ NB305_344.out _; refine blk_far ?_ NB305_344.out _; refine blk_far ?_ NB305_344.out _; refine blk_far ?_ NB305_344.out _; refine blk_far ?_ NB305_343.out _; refine blk_far ?_ NB305_343.out _; exact BK305.out) hb); replace BK312 := Aside0.mk (blk_below (g := gb312) (o := .cells #[.int .i64 t306, .slice Ao43 t307.length co43] 24 (0, 0)) (by refine blk_far ?_ NB312_344.out _; refine blk_far ?_ NB312_344.out _; refine blk_far ?_ NB312_344.out _; refine blk_far ?_ NB312_344.out _; refine blk_far ?_ NB312_343.out _; refine blk_far ?_ NB312_343.out _; exact BK312.out) hb); replace BK322 := Aside0.mk (blk_below (g := gb322) (o := .cells #[.int .i64 t316, .slice Ao52 t317.length co52] 24 (0, 0)) (by refine blk_far ?_ NB322_344.out _; refine blk_far ?_ NB322_344.out _; refine blk_far ?_ NB322_344.out _; refine blk_far ?_ NB322_344.out _; refine blk_far ?_ NB322_343.out _; refine blk_far ?_ NB322_343.out _; exact BK322.out) hb); replace BK332 := Aside0.mk (blk_below (g := gb332) (o := .cells #[.int .i64 t323, .slice Ao65 t324.length co65] 24 (0, 0)) (by refine blk_far ?_ NB332_344.out _; refine blk_far ?_ NB332_344.out _; refine blk_far ?_ NB332_344.out _; refine blk_far ?_ NB332_344.out _; refine blk_far ?_ NB332_343.out _; refine blk_far ?_ NB332_343.out _; exact BK332.out) hb); replace BK333 := Aside0.mk (blk_below (g := gb333) (o := .cells #[.int .i64 t327, .int .i64 t328, .int .i64 t329, .string t330] 35 (0, 0)) (by refine blk_far ?_ NB333_344.out _; refine blk_far ?_ NB333_344.out _; refine blk_far ?_ NB333_344.out _; refine blk_far ?_ NB333_344.out _; refine blk_far ?_ NB333_343.out _; refine blk_far ?_ NB333_343.out _; exact BK333.out) hb); replace BK343 := Aside0.mk (blk_below (g := gb343) (o := .cells #[.int .i64 t334, .slice Ao84 t335.length co84] 24 (0, 0)) (by refine blk_far ?_ NB343_344.out _; refine blk_far ?_ NB343_344.out _; refine blk_far ?_ NB343_344.out _; refine blk_far ?_ NB343_344.out _; refine blk_put (cs := #[.int .i64 t334, .slice none 0 0]) ?_ 1 _ rfl; refine blk_put (cs := #[.int .i64 0, .slice none 0 0]) ?_ 0 _ rfl; exact BK343.out) hb); replace BK344 := Aside0.mk (blk_below (g := gb344) (o := .cells #[.int .i64 t338, .int .i64 t339, .int .i64 t340, .string t341] 35 (0, 0)) (by refine blk_put (cs := #[.int .i64 t338, .int .i64 t339, .int .i64 t340, .string (⟨#[]⟩ : ByteArray)]) ?_ 3 _ rfl; refine blk_put (cs := #[.int .i64 t338, .int .i64 t339, .int .i64 0, .string (⟨#[]⟩ : ByteArray)]) ?_ 2 _ rfl; refine blk_put (cs := #[.int .i64 t338, .int .i64 0, .int .i64 0, .string (⟨#[]⟩ : ByteArray)]) ?_ 1 _ rfl; refine blk_put (cs := #[.int .i64 0, .int .i64 0, .int .i64 0, .string (⟨#[]⟩ : ByteArray)]) ?_ 0 _ rfl; refine blk_far ?_ NB344_343.out _; refine blk_far ?_ NB344_343.out _; exact BK344.out) hb); replace HB := Aside0.mk (below_step (by repeat (with_reducible first | exact HB.out | apply pw_below_drewN | apply below_drew1 | refine below_set ?_ (Aside0.out (by assumption)))) hb); (try clear hb); (try clear hb2); (try clear hk); (try clear hi); (try clear ho0)) | ((with_reducible refine gate_dst (N := 26) rfl ?_); (try (refine gate_guard (by rfl) ?_; dsimp only)); refine box_event ?hg (N := 26) ?hd (cs := #[.int .i64 0, .slice none 0 0]) (t := 24) ?hr ?_; (case hd => rfl); (case hg => rfl); (case hr => first | (go_simp; done) | (go_simp; rfl)); intro gb351 hg w94 hbox hb; replace HO304 := rb_ HO304 hb; replace HO309 := rb_ HO309 hb; replace HO315 := rb_ HO315 hb; replace HO319 := rb_ HO319 hb; replace HO326 := rb_ HO326 hb; replace HO337 := rb_ HO337 hb; replace HO348 := rb_ HO348 hb; have BK351 := Aside0.mk (hbox); have GW351 := Aside0.mk ((by rw [hg]; exact (below_size (by repeat (with_reducible first | exact HB.out | apply pw_below_drewN | apply below_drew1 | refine below_set ?_ (Aside0.out (by assumption))))) : w.heap.size ≤ gb351)); have GE351 := Aside0.mk ((by rw [hg]; exact (below_size (by repeat (with_reducible first | exact HB.out | apply pw_below_drewN | apply below_drew1 | refine below_set ?_ (Aside0.out (by assumption))))) : w.heap.size ≤ gb351)); replace HB := Aside0.mk (below_step (by repeat (with_reducible first | exact HB.out | apply pw_below_drewN | apply below_drew1 | refine below_set ?_ (Aside0.out (by assumption)))) hb); have NB300_351 := Aside0.mk ((by rw [hg]; exact Nat.ne_of_lt (blk_lt BK300.out) : gb300 ≠ gb351)); have NB351_300 := Aside0.mk ((by rw [hg]; exact Nat.ne_of_gt (blk_lt BK300.out) : gb351 ≠ gb300)); replace BK300 := bl_ BK300 hb; have NB305_351 := Aside0.mk ((by rw [hg]; exact Nat.ne_of_lt (blk_lt BK305.out) : gb305 ≠ gb351)); have NB351_305 := Aside0.mk ((by rw [hg]; exact Nat.ne_of_gt (blk_lt BK305.out) : gb351 ≠ gb305)); replace BK305 := bl_ BK305 hb; have NB312_351 := Aside0.mk ((by rw [hg]; exact Nat.ne_of_lt (blk_lt BK312.out) : gb312 ≠ gb351)); have NB351_312 := Aside0.mk ((by rw [hg]; exact Nat.ne_of_gt (blk_lt BK312.out) : gb351 ≠ gb312)); replace BK312 := bl_ BK312 hb; have NB322_351 := Aside0.mk ((by rw [hg]; exact Nat.ne_of_lt (blk_lt BK322.out) : gb322 ≠ gb351)); have NB351_322 := Aside0.mk ((by rw [hg]; exact Nat.ne_of_gt (blk_lt BK322.out) : gb351 ≠ gb322)); replace BK322 := bl_ BK322 hb; have NB332_351 := Aside0.mk ((by rw [hg]; exact Nat.ne_of_lt (blk_lt BK332.out) : gb332 ≠ gb351)); have NB351_332 := Aside0.mk ((by rw [hg]; exact Nat.ne_of_gt (blk_lt BK332.out) : gb351 ≠ gb332)); replace BK332 := bl_ BK332 hb; have NB333_351 := Aside0.mk ((by rw [hg]; exact Nat.ne_of_lt (blk_lt BK333.out) : gb333 ≠ gb351)); have NB351_333 := Aside0.mk ((by rw [hg]; exact Nat.ne_of_gt (blk_lt BK333.out) : gb351 ≠ gb333)); replace BK333 := bl_ BK333 hb; have NB343_351 := Aside0.mk ((by rw [hg]; exact Nat.ne_of_lt (blk_lt BK343.out) : gb343 ≠ gb351)); have NB351_343 := Aside0.mk ((by rw [hg]; exact Nat.ne_of_gt (blk_lt BK343.out) : gb351 ≠ gb343)); replace BK343 := bl_ BK343 hb; have NB344_351 := Aside0.mk ((by rw [hg]; exact Nat.ne_of_lt (blk_lt BK344.out) : gb344 ≠ gb351)); have NB351_344 := Aside0.mk ((by rw [hg]; exact Nat.ne_of_gt (blk_lt BK344.out) : gb351 ≠ gb344)); replace BK344 := bl_ BK344 hb; clear hb hbox hg; have hnb95 := NB351_300.out; have hnc95 := NB300_351.out; have hnb96 := NB351_305.out; have hnc96 := NB305_351.out; have hnb97 := NB351_312.out; have hnc97 := NB312_351.out; have hnb98 := NB351_322.out; have hnc98 := NB322_351.out; have hnb99 := NB351_332.out; have hnc99 := NB332_351.out; have hnb100 := NB351_333.out; have hnc100 := NB333_351.out; have hnb101 := NB351_343.out; have hnc101 := NB343_351.out; have hnb102 := NB351_344.out; have hnc102 := NB344_351.out; have hcz103_0 : w94.cell? ⟨gb351, 0, none⟩ = some (.int .i64 0) := (blk_cell BK351.out 0).trans rfl; have hcz103_1 : w94.cell? ⟨gb351, 1, none⟩ = some (.slice none 0 0) := (blk_cell BK351.out 1).trans rfl; have hfz103_0 := blk_frozen BK351.out 0; have hfz103_1 := blk_frozen BK351.out 1; obtain ⟨Ao104, co104, eo104⟩ := Kd.R_slice HO348.out; subst eo104; have hcz105_0 : w94.cell? ⟨gb305, 0, none⟩ = some (.int .i64 a0_0) := (blk_cell BK305.out 0).trans rfl; have hcz105_1 : w94.cell? ⟨gb305, 1, none⟩ = some (.slice Ao33 t302.length co33) := (blk_cell BK305.out 1).trans rfl; have hfz105_0 := blk_frozen BK305.out 0; have hfz105_1 := blk_frozen BK305.out 1) | ((with_reducible refine gate_callee (f := 16) rfl ?_); refine goesL_ (some 95) rfl rfl Try.func16 (by kernel_rfl) rfl #[.agg #[.int .i64 a0_0, .slice Ao33 t302.length co33], .int .i64 a3] rfl (by (try simp only [List.map_toArray, List.map_cons, List.map_nil]); first | done | rfl | (simp only [List.length_drop, List.length_take]; rfl)) ?_; (with_reducible refine (watchmanref21_Again.calls kj6 a0_0 _ _ t302 a3 t352 t353 t356 t357 _ ?side1 ?side2 A23.out).mono ?_); (case side1 => refine (Kd.R_reads' (e := 35) (base := w.heap.size) (ok := fun k_ => ((((((some k_ ≠ (.slice Ao43 t307.length co43 : Value).ownBlock ∧ some k_ ≠ (.slice Ao52 t317.length co52 : Value).ownBlock) ∧ some k_ ≠ (.slice Ao65 t324.length co65 : Value).ownBlock) ∧ k_ ≠ gb333) ∧ some k_ ≠ (.slice Ao84 t335.length co84 : Value).ownBlock) ∧ k_ ≠ gb344) ∧ some k_ ≠ (.slice Ao104 t346.length co104 : Value).ownBlock)) (n := t302.length) (c := co33) ?_).2.2; exact (by (with_reducible repeat (first | apply Kd.R_alloc | apply Kd.R_drewN | apply Kd.R_drew)); exact (Kd.R_mono (rf2 (Kd.R_types HO304.out BK351.out (by decide)) (fun _ hk => hk.2) (.int .i64 t345) (.slice Ao104 t346.length co104)) (fun _ h_ => h_.1)))); (case side2 => exact (Kd.R_reads' HO304.out).2.1); rintro e w106 ⟨v354, rfl, ho0, hb⟩; refine ⟨_, rfl, ?_⟩; replace HO315 := Aside0.mk (Kd.R_below (by (with_reducible repeat (first | apply Kd.R_alloc | apply Kd.R_drewN | apply Kd.R_drew)); exact (Kd.R_mono (rf2 (Kd.R_types HO315.out BK351.out (by decide)) (fun _ hk => hk.2) (.int .i64 t345) (.slice Ao104 t346.length co104)) (fun _ h_ => h_.1))) hb); have HO355 := Aside0.mk (Kd.R_lower (Kd.R_newB (Kd.R_newB (Kd.R_new' (Kd.R_new' (Kd.R_new' (Kd.R_new' (Kd.R_new' (Kd.R_new' ho0 (Kd.R_lt (by (with_reducible repeat (first | apply Kd.R_alloc | apply Kd.R_drewN | apply Kd.R_drew)); exact (Kd.R_mono (rf2 (Kd.R_types HO304.out BK351.out (by decide)) (fun _ hk => hk.2) (.int .i64 t345) (.slice Ao104 t346.length co104)) (fun _ h_ => h_.1))))) (Kd.R_lt (by (with_reducible repeat (first | apply Kd.R_alloc | apply Kd.R_drewN | apply Kd.R_drew)); exact (Kd.R_mono (rf2 (Kd.R_types HO309.out BK351.out (by decide)) (fun _ hk => hk.2) (.int .i64 t345) (.slice Ao104 t346.length co104)) (fun _ h_ => h_.1))))) (Kd.R_lt (by (with_reducible repeat (first | apply Kd.R_alloc | apply Kd.R_drewN | apply Kd.R_drew)); exact (Kd.R_mono (rf2 (Kd.R_types HO319.out BK351.out (by decide)) (fun _ hk => hk.2) (.int .i64 t345) (.slice Ao104 t346.length co104)) (fun _ h_ => h_.1))))) (Kd.R_lt (by (with_reducible repeat (first | apply Kd.R_alloc | apply Kd.R_drewN | apply Kd.R_drew)); exact (Kd.R_mono (rf2 (Kd.R_types HO326.out BK351.out (by decide)) (fun _ hk => hk.2) (.int .i64 t345) (.slice Ao104 t346.length co104)) (fun _ h_ => h_.1))))) (Kd.R_lt (by (with_reducible repeat (first | apply Kd.R_alloc | apply Kd.R_drewN | apply Kd.R_drew)); exact (Kd.R_mono (rf2 (Kd.R_types HO337.out BK351.out (by decide)) (fun _ hk => hk.2) (.int .i64 t345) (.slice Ao104 t346.length co104)) (fun _ h_ => h_.1))))) (Kd.R_lt (by (with_reducible repeat (first | apply Kd.R_alloc | apply Kd.R_drewN | apply Kd.R_drew)); exact (Kd.R_mono (rf2 (Kd.R_types HO348.out BK351.out (by decide)) (fun _ hk => hk.2) (.int .i64 t345) (.slice Ao104 t346.length co104)) (fun _ h_ => h_.1))))) (g := gb333) (o := .cells #[.int .i64 t327, .int .i64 t328, .int .i64 t329, .string t330] 35 (0, 0)) (by refine blk_far ?_ NB333_351.out _; refine blk_far ?_ NB333_351.out _; exact BK333.out)) (g := gb344) (o := .cells #[.int .i64 t338, .int .i64 t339, .int .i64 t340, .string t341] 35 (0, 0)) (by refine blk_far ?_ NB344_351.out _; refine blk_far ?_ NB344_351.out _; exact BK344.out)) (below_size (by repeat (with_reducible first | exact HB.out | apply pw_below_drewN | apply below_drew1 | refine below_set ?_ (Aside0.out (by assumption)))))); replace HO304 := Aside0.mk (Kd.R_elder' (by (with_reducible repeat (first | apply Kd.R_alloc | apply Kd.R_drewN | apply Kd.R_drew)); exact (Kd.R_mono (rf2 (Kd.R_types HO304.out BK351.out (by decide)) (fun _ hk => hk.2) (.int .i64 t345) (.slice Ao104 t346.length co104)) (fun _ h_ => h_.1))) (Kd.R_base ho0) hb); replace HO309 := Aside0.mk (Kd.R_elder' (by (with_reducible repeat (first | apply Kd.R_alloc | apply Kd.R_drewN | apply Kd.R_drew)); exact (Kd.R_mono (rf2 (Kd.R_types HO309.out BK351.out (by decide)) (fun _ hk => hk.2) (.int .i64 t345) (.slice Ao104 t346.length co104)) (fun _ h_ => h_.1))) (Kd.R_base ho0) hb); replace HO319 := Aside0.mk (Kd.R_elder' (by (with_reducible repeat (first | apply Kd.R_alloc | apply Kd.R_drewN | apply Kd.R_drew)); exact (Kd.R_mono (rf2 (Kd.R_types HO319.out BK351.out (by decide)) (fun _ hk => hk.2) (.int .i64 t345) (.slice Ao104 t346.length co104)) (fun _ h_ => h_.1))) (Kd.R_base ho0) hb); replace HO326 := Aside0.mk (Kd.R_elder' (by (with_reducible repeat (first | apply Kd.R_alloc | apply Kd.R_drewN | apply Kd.R_drew)); exact (Kd.R_mono (rf2 (Kd.R_types HO326.out BK351.out (by decide)) (fun _ hk => hk.2) (.int .i64 t345) (.slice Ao104 t346.length co104)) (fun _ h_ => h_.1))) (Kd.R_base ho0) hb); replace HO337 := Aside0.mk (Kd.R_elder' (by (with_reducible repeat (first | apply Kd.R_alloc | apply Kd.R_drewN | apply Kd.R_drew)); exact (Kd.R_mono (rf2 (Kd.R_types HO337.out BK351.out (by decide)) (fun _ hk => hk.2) (.int .i64 t345) (.slice Ao104 t346.length co104)) (fun _ h_ => h_.1))) (Kd.R_base ho0) hb); replace HO348 := Aside0.mk (Kd.R_elder' (by (with_reducible repeat (first | apply Kd.R_alloc | apply Kd.R_drewN | apply Kd.R_drew)); exact (Kd.R_mono (rf2 (Kd.R_types HO348.out BK351.out (by decide)) (fun _ hk => hk.2) (.int .i64 t345) (.slice Ao104 t346.length co104)) (fun _ h_ => h_.1))) (Kd.R_base ho0) hb); replace BK300 := Aside0.mk (blk_below (g := gb300) (o := .cells #[.int .i64 a0_0, .slice A0_1 l0_1.length c0_1] 24 (0, 0)) (by refine blk_far ?_ NB300_351.out _; refine blk_far ?_ NB300_351.out _; exact BK300.out) hb); replace BK305 := Aside0.mk (blk_below (g := gb305) (o := .cells #[.int .i64 a0_0, .slice Ao33 t302.length co33] 24 (0, 0)) (by refine blk_far ?_ NB305_351.out _; refine blk_far ?_ NB305_351.out _; exact BK305.out) hb); replace BK312 := Aside0.mk (blk_below (g := gb312) (o := .cells #[.int .i64 t306, .slice Ao43 t307.length co43] 24 (0, 0)) (by refine blk_far ?_ NB312_351.out _; refine blk_far ?_ NB312_351.out _; exact BK312.out) hb); replace BK322 := Aside0.mk (blk_below (g := gb322) (o := .cells #[.int .i64 t316, .slice Ao52 t317.length co52] 24 (0, 0)) (by refine blk_far ?_ NB322_351.out _; refine blk_far ?_ NB322_351.out _; exact BK322.out) hb); replace BK332 := Aside0.mk (blk_below (g := gb332) (o := .cells #[.int .i64 t323, .slice Ao65 t324.length co65] 24 (0, 0)) (by refine blk_far ?_ NB332_351.out _; refine blk_far ?_ NB332_351.out _; exact BK332.out) hb); replace BK333 := Aside0.mk (blk_below (g := gb333) (o := .cells #[.int .i64 t327, .int .i64 t328, .int .i64 t329, .string t330] 35 (0, 0)) (by refine blk_far ?_ NB333_351.out _; refine blk_far ?_ NB333_351.out _; exact BK333.out) hb); replace BK343 := Aside0.mk (blk_below (g := gb343) (o := .cells #[.int .i64 t334, .slice Ao84 t335.length co84] 24 (0, 0)) (by refine blk_far ?_ NB343_351.out _; refine blk_far ?_ NB343_351.out _; exact BK343.out) hb); replace BK344 := Aside0.mk (blk_below (g := gb344) (o := .cells #[.int .i64 t338, .int .i64 t339, .int .i64 t340, .string t341] 35 (0, 0)) (by refine blk_far ?_ NB344_351.out _; refine blk_far ?_ NB344_351.out _; exact BK344.out) hb); replace BK351 := Aside0.mk (blk_below (g := gb351) (o := .cells #[.int .i64 t345, .slice Ao104 t346.length co104] 24 (0, 0)) (by refine blk_put (cs := #[.int .i64 t345, .slice none 0 0]) ?_ 1 _ rfl; refine blk_put (cs := #[.int .i64 0, .slice none 0 0]) ?_ 0 _ rfl; exact BK351.out) hb); replace HB := Aside0.mk (below_step (by repeat (with_reducible first | exact HB.out | apply pw_below_drewN | apply below_drew1 | refine below_set ?_ (Aside0.out (by assumption)))) hb); (try clear hb); (try clear hb2); (try clear hk); (try clear hi); (try clear ho0)) | ((with_reducible refine gate_dst (N := 29) rfl ?_); (try (refine gate_guard (by rfl) ?_; dsimp only)); refine box_event ?hg (N := 29) ?hd (cs := #[.int .i64 0, .slice none 0 0]) (t := 24) ?hr ?_; (case hd => rfl); (case hg => rfl); (case hr => first | (go_simp; done) | (go_simp; rfl)); intro gb358 hg w107 hbox hb; replace HO304 := rb_ HO304 hb; replace HO309 := rb_ HO309 hb; replace HO315 := rb_ HO315 hb; replace HO319 := rb_ HO319 hb; replace HO326 := rb_ HO326 hb; replace HO337 := rb_ HO337 hb; replace HO348 := rb_ HO348 hb; replace HO355 := rb_ HO355 hb; have BK358 := Aside0.mk (hbox); have GW358 := Aside0.mk ((by rw [hg]; exact (below_size (by repeat (with_reducible first | exact HB.out | apply pw_below_drewN | apply below_drew1 | refine below_set ?_ (Aside0.out (by assumption))))) : w.heap.size ≤ gb358)); have GE358 := Aside0.mk ((by rw [hg]; exact (below_size (by repeat (with_reducible first | exact HB.out | apply pw_below_drewN | apply below_drew1 | refine below_set ?_ (Aside0.out (by assumption))))) : w.heap.size ≤ gb358)); replace HB := Aside0.mk (below_step (by repeat (with_reducible first | exact HB.out | apply pw_below_drewN | apply below_drew1 | refine below_set ?_ (Aside0.out (by assumption)))) hb); have NB300_358 := Aside0.mk ((by rw [hg]; exact Nat.ne_of_lt (blk_lt BK300.out) : gb300 ≠ gb358)); have NB358_300 := Aside0.mk ((by rw [hg]; exact Nat.ne_of_gt (blk_lt BK300.out) : gb358 ≠ gb300)); replace BK300 := bl_ BK300 hb; have NB305_358 := Aside0.mk ((by rw [hg]; exact Nat.ne_of_lt (blk_lt BK305.out) : gb305 ≠ gb358)); have NB358_305 := Aside0.mk ((by rw [hg]; exact Nat.ne_of_gt (blk_lt BK305.out) : gb358 ≠ gb305)); replace BK305 := bl_ BK305 hb; have NB312_358 := Aside0.mk ((by rw [hg]; exact Nat.ne_of_lt (blk_lt BK312.out) : gb312 ≠ gb358)); have NB358_312 := Aside0.mk ((by rw [hg]; exact Nat.ne_of_gt (blk_lt BK312.out) : gb358 ≠ gb312)); replace BK312 := bl_ BK312 hb; have NB322_358 := Aside0.mk ((by rw [hg]; exact Nat.ne_of_lt (blk_lt BK322.out) : gb322 ≠ gb358)); have NB358_322 := Aside0.mk ((by rw [hg]; exact Nat.ne_of_gt (blk_lt BK322.out) : gb358 ≠ gb322)); replace BK322 := bl_ BK322 hb; have NB332_358 := Aside0.mk ((by rw [hg]; exact Nat.ne_of_lt (blk_lt BK332.out) : gb332 ≠ gb358)); have NB358_332 := Aside0.mk ((by rw [hg]; exact Nat.ne_of_gt (blk_lt BK332.out) : gb358 ≠ gb332)); replace BK332 := bl_ BK332 hb; have NB333_358 := Aside0.mk ((by rw [hg]; exact Nat.ne_of_lt (blk_lt BK333.out) : gb333 ≠ gb358)); have NB358_333 := Aside0.mk ((by rw [hg]; exact Nat.ne_of_gt (blk_lt BK333.out) : gb358 ≠ gb333)); replace BK333 := bl_ BK333 hb; have NB343_358 := Aside0.mk ((by rw [hg]; exact Nat.ne_of_lt (blk_lt BK343.out) : gb343 ≠ gb358)); have NB358_343 := Aside0.mk ((by rw [hg]; exact Nat.ne_of_gt (blk_lt BK343.out) : gb358 ≠ gb343)); replace BK343 := bl_ BK343 hb; have NB344_358 := Aside0.mk ((by rw [hg]; exact Nat.ne_of_lt (blk_lt BK344.out) : gb344 ≠ gb358)); have NB358_344 := Aside0.mk ((by rw [hg]; exact Nat.ne_of_gt (blk_lt BK344.out) : gb358 ≠ gb344)); replace BK344 := bl_ BK344 hb; have NB351_358 := Aside0.mk ((by rw [hg]; exact Nat.ne_of_lt (blk_lt BK351.out) : gb351 ≠ gb358)); have NB358_351 := Aside0.mk ((by rw [hg]; exact Nat.ne_of_gt (blk_lt BK351.out) : gb358 ≠ gb351)); replace BK351 := bl_ BK351 hb; clear hb hbox hg; have hnb108 := NB358_300.out; have hnc108 := NB300_358.out; have hnb109 := NB358_305.out; have hnc109 := NB305_358.out; have hnb110 := NB358_312.out; have hnc110 := NB312_358.out; have hnb111 := NB358_322.out; have hnc111 := NB322_358.out; have hnb112 := NB358_332.out; have hnc112 := NB332_358.out; have hnb113 := NB358_333.out; have hnc113 := NB333_358.out; have hnb114 := NB358_343.out; have hnc114 := NB343_358.out; have hnb115 := NB358_344.out; have hnc115 := NB344_358.out; have hnb116 := NB358_351.out; have hnc116 := NB351_358.out; have hcz117_0 : w107.cell? ⟨gb358, 0, none⟩ = some (.int .i64 0) := (blk_cell BK358.out 0).trans rfl; have hcz117_1 : w107.cell? ⟨gb358, 1, none⟩ = some (.slice none 0 0) := (blk_cell BK358.out 1).trans rfl; have hfz117_0 := blk_frozen BK358.out 0; have hfz117_1 := blk_frozen BK358.out 1; obtain ⟨Ao118, co118, eo118⟩ := Kd.R_slice HO355.out; subst eo118; have hcz119_0 : w107.cell? ⟨gb300, 0, none⟩ = some (.int .i64 a0_0) := (blk_cell BK300.out 0).trans rfl; have hcz119_1 : w107.cell? ⟨gb300, 1, none⟩ = some (.slice A0_1 l0_1.length c0_1) := (blk_cell BK300.out 1).trans rfl; have hfz119_0 := blk_frozen BK300.out 0; have hfz119_1 := blk_frozen BK300.out 1) | ((with_reducible refine gate_callee (f := 17) rfl ?_); refine goesL_ (some 102) rfl rfl Try.func17 (by kernel_rfl) rfl #[.agg #[.int .i64 a0_0, .slice A0_1 l0_1.length c0_1], .slice A5 l5.length c5] rfl (by (try simp only [List.map_toArray, List.map_cons, List.map_nil]); first | done | rfl | (simp only [List.length_drop, List.length_take]; rfl)) ?_; (with_reducible refine (post_Only.calls kj6 a0_0 _ _ l0_1 _ _ l5 t359 t360 t363 _ ?side1 ?side2 ?side3 ?side4 A24.out).mono ?_); (case side1 => exact Kd.C_below HR0_1.out (by repeat (with_reducible first | exact HB.out | apply pw_below_drewN | apply below_drew1 | refine below_set ?_ (Aside0.out (by assumption))))); (case side2 => exact HC0_1.out); (case side3 => exact Kd.C_below HR5.out (by repeat (with_reducible first | exact HB.out | apply pw_below_drewN | apply below_drew1 | refine below_set ?_ (Aside0.out (by assumption))))); (case side4 => exact HC5.out); rintro e w120 ⟨v361, rfl, ho0, hb⟩; refine ⟨_, rfl, ?_⟩; replace HO315 := Aside0.mk (Kd.R_below (by (with_reducible repeat (first | apply Kd.R_alloc | apply Kd.R_drewN | apply Kd.R_drew)); exact (Kd.R_mono (rf2 (Kd.R_types HO315.out BK358.out (by decide)) (fun _ hk => hk.2) (.int .i64 t352) (.slice Ao118 t353.length co118)) (fun _ h_ => h_.1))) hb); have HO362 := Aside0.mk (Kd.R_lower (Kd.R_newB (Kd.R_newB (Kd.R_new' (Kd.R_new' (Kd.R_new' (Kd.R_new' (Kd.R_new' (Kd.R_new' (Kd.R_new' ho0 (Kd.R_lt (by (with_reducible repeat (first | apply Kd.R_alloc | apply Kd.R_drewN | apply Kd.R_drew)); exact (Kd.R_mono (rf2 (Kd.R_types HO304.out BK358.out (by decide)) (fun _ hk => hk.2) (.int .i64 t352) (.slice Ao118 t353.length co118)) (fun _ h_ => h_.1))))) (Kd.R_lt (by (with_reducible repeat (first | apply Kd.R_alloc | apply Kd.R_drewN | apply Kd.R_drew)); exact (Kd.R_mono (rf2 (Kd.R_types HO309.out BK358.out (by decide)) (fun _ hk => hk.2) (.int .i64 t352) (.slice Ao118 t353.length co118)) (fun _ h_ => h_.1))))) (Kd.R_lt (by (with_reducible repeat (first | apply Kd.R_alloc | apply Kd.R_drewN | apply Kd.R_drew)); exact (Kd.R_mono (rf2 (Kd.R_types HO319.out BK358.out (by decide)) (fun _ hk => hk.2) (.int .i64 t352) (.slice Ao118 t353.length co118)) (fun _ h_ => h_.1))))) (Kd.R_lt (by (with_reducible repeat (first | apply Kd.R_alloc | apply Kd.R_drewN | apply Kd.R_drew)); exact (Kd.R_mono (rf2 (Kd.R_types HO326.out BK358.out (by decide)) (fun _ hk => hk.2) (.int .i64 t352) (.slice Ao118 t353.length co118)) (fun _ h_ => h_.1))))) (Kd.R_lt (by (with_reducible repeat (first | apply Kd.R_alloc | apply Kd.R_drewN | apply Kd.R_drew)); exact (Kd.R_mono (rf2 (Kd.R_types HO337.out BK358.out (by decide)) (fun _ hk => hk.2) (.int .i64 t352) (.slice Ao118 t353.length co118)) (fun _ h_ => h_.1))))) (Kd.R_lt (by (with_reducible repeat (first | apply Kd.R_alloc | apply Kd.R_drewN | apply Kd.R_drew)); exact (Kd.R_mono (rf2 (Kd.R_types HO348.out BK358.out (by decide)) (fun _ hk => hk.2) (.int .i64 t352) (.slice Ao118 t353.length co118)) (fun _ h_ => h_.1))))) (Kd.R_lt (by (with_reducible repeat (first | apply Kd.R_alloc | apply Kd.R_drewN | apply Kd.R_drew)); exact (Kd.R_mono (rf2 (Kd.R_types HO355.out BK358.out (by decide)) (fun _ hk => hk.2) (.int .i64 t352) (.slice Ao118 t353.length co118)) (fun _ h_ => h_.1))))) (g := gb333) (o := .cells #[.int .i64 t327, .int .i64 t328, .int .i64 t329, .string t330] 35 (0, 0)) (by refine blk_far ?_ NB333_358.out _; refine blk_far ?_ NB333_358.out _; exact BK333.out)) (g := gb344) (o := .cells #[.int .i64 t338, .int .i64 t339, .int .i64 t340, .string t341] 35 (0, 0)) (by refine blk_far ?_ NB344_358.out _; refine blk_far ?_ NB344_358.out _; exact BK344.out)) (below_size (by repeat (with_reducible first | exact HB.out | apply pw_below_drewN | apply below_drew1 | refine below_set ?_ (Aside0.out (by assumption)))))); replace HO304 := Aside0.mk (Kd.R_elder' (by (with_reducible repeat (first | apply Kd.R_alloc | apply Kd.R_drewN | apply Kd.R_drew)); exact (Kd.R_mono (rf2 (Kd.R_types HO304.out BK358.out (by decide)) (fun _ hk => hk.2) (.int .i64 t352) (.slice Ao118 t353.length co118)) (fun _ h_ => h_.1))) (Kd.R_base ho0) hb); replace HO309 := Aside0.mk (Kd.R_elder' (by (with_reducible repeat (first | apply Kd.R_alloc | apply Kd.R_drewN | apply Kd.R_drew)); exact (Kd.R_mono (rf2 (Kd.R_types HO309.out BK358.out (by decide)) (fun _ hk => hk.2) (.int .i64 t352) (.slice Ao118 t353.length co118)) (fun _ h_ => h_.1))) (Kd.R_base ho0) hb); replace HO319 := Aside0.mk (Kd.R_elder' (by (with_reducible repeat (first | apply Kd.R_alloc | apply Kd.R_drewN | apply Kd.R_drew)); exact (Kd.R_mono (rf2 (Kd.R_types HO319.out BK358.out (by decide)) (fun _ hk => hk.2) (.int .i64 t352) (.slice Ao118 t353.length co118)) (fun _ h_ => h_.1))) (Kd.R_base ho0) hb); replace HO326 := Aside0.mk (Kd.R_elder' (by (with_reducible repeat (first | apply Kd.R_alloc | apply Kd.R_drewN | apply Kd.R_drew)); exact (Kd.R_mono (rf2 (Kd.R_types HO326.out BK358.out (by decide)) (fun _ hk => hk.2) (.int .i64 t352) (.slice Ao118 t353.length co118)) (fun _ h_ => h_.1))) (Kd.R_base ho0) hb); replace HO337 := Aside0.mk (Kd.R_elder' (by (with_reducible repeat (first | apply Kd.R_alloc | apply Kd.R_drewN | apply Kd.R_drew)); exact (Kd.R_mono (rf2 (Kd.R_types HO337.out BK358.out (by decide)) (fun _ hk => hk.2) (.int .i64 t352) (.slice Ao118 t353.length co118)) (fun _ h_ => h_.1))) (Kd.R_base ho0) hb); replace HO348 := Aside0.mk (Kd.R_elder' (by (with_reducible repeat (first | apply Kd.R_alloc | apply Kd.R_drewN | apply Kd.R_drew)); exact (Kd.R_mono (rf2 (Kd.R_types HO348.out BK358.out (by decide)) (fun _ hk => hk.2) (.int .i64 t352) (.slice Ao118 t353.length co118)) (fun _ h_ => h_.1))) (Kd.R_base ho0) hb); replace HO355 := Aside0.mk (Kd.R_elder' (by (with_reducible repeat (first | apply Kd.R_alloc | apply Kd.R_drewN | apply Kd.R_drew)); exact (Kd.R_mono (rf2 (Kd.R_types HO355.out BK358.out (by decide)) (fun _ hk => hk.2) (.int .i64 t352) (.slice Ao118 t353.length co118)) (fun _ h_ => h_.1))) (Kd.R_base ho0) hb); replace BK300 := Aside0.mk (blk_below (g := gb300) (o := .cells #[.int .i64 a0_0, .slice A0_1 l0_1.length c0_1] 24 (0, 0)) (by refine blk_far ?_ NB300_358.out _; refine blk_far ?_ NB300_358.out _; exact BK300.out) hb); replace BK305 := Aside0.mk (blk_below (g := gb305) (o := .cells #[.int .i64 a0_0, .slice Ao33 t302.length co33] 24 (0, 0)) (by refine blk_far ?_ NB305_358.out _; refine blk_far ?_ NB305_358.out _; exact BK305.out) hb); replace BK312 := Aside0.mk (blk_below (g := gb312) (o := .cells #[.int .i64 t306, .slice Ao43 t307.length co43] 24 (0, 0)) (by refine blk_far ?_ NB312_358.out _; refine blk_far ?_ NB312_358.out _; exact BK312.out) hb); replace BK322 := Aside0.mk (blk_below (g := gb322) (o := .cells #[.int .i64 t316, .slice Ao52 t317.length co52] 24 (0, 0)) (by refine blk_far ?_ NB322_358.out _; refine blk_far ?_ NB322_358.out _; exact BK322.out) hb); replace BK332 := Aside0.mk (blk_below (g := gb332) (o := .cells #[.int .i64 t323, .slice Ao65 t324.length co65] 24 (0, 0)) (by refine blk_far ?_ NB332_358.out _; refine blk_far ?_ NB332_358.out _; exact BK332.out) hb); replace BK333 := Aside0.mk (blk_below (g := gb333) (o := .cells #[.int .i64 t327, .int .i64 t328, .int .i64 t329, .string t330] 35 (0, 0)) (by refine blk_far ?_ NB333_358.out _; refine blk_far ?_ NB333_358.out _; exact BK333.out) hb); replace BK343 := Aside0.mk (blk_below (g := gb343) (o := .cells #[.int .i64 t334, .slice Ao84 t335.length co84] 24 (0, 0)) (by refine blk_far ?_ NB343_358.out _; refine blk_far ?_ NB343_358.out _; exact BK343.out) hb); replace BK344 := Aside0.mk (blk_below (g := gb344) (o := .cells #[.int .i64 t338, .int .i64 t339, .int .i64 t340, .string t341] 35 (0, 0)) (by refine blk_far ?_ NB344_358.out _; refine blk_far ?_ NB344_358.out _; exact BK344.out) hb); replace BK351 := Aside0.mk (blk_below (g := gb351) (o := .cells #[.int .i64 t345, .slice Ao104 t346.length co104] 24 (0, 0)) (by refine blk_far ?_ NB351_358.out _; refine blk_far ?_ NB351_358.out _; exact BK351.out) hb); replace BK358 := Aside0.mk (blk_below (g := gb358) (o := .cells #[.int .i64 t352, .slice Ao118 t353.length co118] 24 (0, 0)) (by refine blk_put (cs := #[.int .i64 t352, .slice none 0 0]) ?_ 1 _ rfl; refine blk_put (cs := #[.int .i64 0, .slice none 0 0]) ?_ 0 _ rfl; exact BK358.out) hb); replace HB := Aside0.mk (below_step (by repeat (with_reducible first | exact HB.out | apply pw_below_drewN | apply below_drew1 | refine below_set ?_ (Aside0.out (by assumption)))) hb); (try clear hb); (try clear hb2); (try clear hk); (try clear hi); (try clear ho0)) | ((with_reducible refine gate_dst (N := 32) rfl ?_); (try (refine gate_guard (by rfl) ?_; dsimp only)); refine box_event ?hg (N := 32) ?hd (cs := #[.int .i64 0, .slice none 0 0]) (t := 24) ?hr ?_; (case hd => rfl); (case hg => rfl); (case hr => first | (go_simp; done) | (go_simp; rfl)); intro gb364 hg w121 hbox hb; replace HO304 := rb_ HO304 hb; replace HO309 := rb_ HO309 hb; replace HO315 := rb_ HO315 hb; replace HO319 := rb_ HO319 hb; replace HO326 := rb_ HO326 hb; replace HO337 := rb_ HO337 hb; replace HO348 := rb_ HO348 hb; replace HO355 := rb_ HO355 hb; replace HO362 := rb_ HO362 hb; have BK364 := Aside0.mk (hbox); have GW364 := Aside0.mk ((by rw [hg]; exact (below_size (by repeat (with_reducible first | exact HB.out | apply pw_below_drewN | apply below_drew1 | refine below_set ?_ (Aside0.out (by assumption))))) : w.heap.size ≤ gb364)); have GE364 := Aside0.mk ((by rw [hg]; exact (below_size (by repeat (with_reducible first | exact HB.out | apply pw_below_drewN | apply below_drew1 | refine below_set ?_ (Aside0.out (by assumption))))) : w.heap.size ≤ gb364)); replace HB := Aside0.mk (below_step (by repeat (with_reducible first | exact HB.out | apply pw_below_drewN | apply below_drew1 | refine below_set ?_ (Aside0.out (by assumption)))) hb); have NB300_364 := Aside0.mk ((by rw [hg]; exact Nat.ne_of_lt (blk_lt BK300.out) : gb300 ≠ gb364)); have NB364_300 := Aside0.mk ((by rw [hg]; exact Nat.ne_of_gt (blk_lt BK300.out) : gb364 ≠ gb300)); replace BK300 := bl_ BK300 hb; have NB305_364 := Aside0.mk ((by rw [hg]; exact Nat.ne_of_lt (blk_lt BK305.out) : gb305 ≠ gb364)); have NB364_305 := Aside0.mk ((by rw [hg]; exact Nat.ne_of_gt (blk_lt BK305.out) : gb364 ≠ gb305)); replace BK305 := bl_ BK305 hb; have NB312_364 := Aside0.mk ((by rw [hg]; exact Nat.ne_of_lt (blk_lt BK312.out) : gb312 ≠ gb364)); have NB364_312 := Aside0.mk ((by rw [hg]; exact Nat.ne_of_gt (blk_lt BK312.out) : gb364 ≠ gb312)); replace BK312 := bl_ BK312 hb; have NB322_364 := Aside0.mk ((by rw [hg]; exact Nat.ne_of_lt (blk_lt BK322.out) : gb322 ≠ gb364)); have NB364_322 := Aside0.mk ((by rw [hg]; exact Nat.ne_of_gt (blk_lt BK322.out) : gb364 ≠ gb322)); replace BK322 := bl_ BK322 hb; have NB332_364 := Aside0.mk ((by rw [hg]; exact Nat.ne_of_lt (blk_lt BK332.out) : gb332 ≠ gb364)); have NB364_332 := Aside0.mk ((by rw [hg]; exact Nat.ne_of_gt (blk_lt BK332.out) : gb364 ≠ gb332)); replace BK332 := bl_ BK332 hb; have NB333_364 := Aside0.mk ((by rw [hg]; exact Nat.ne_of_lt (blk_lt BK333.out) : gb333 ≠ gb364)); have NB364_333 := Aside0.mk ((by rw [hg]; exact Nat.ne_of_gt (blk_lt BK333.out) : gb364 ≠ gb333)); replace BK333 := bl_ BK333 hb; have NB343_364 := Aside0.mk ((by rw [hg]; exact Nat.ne_of_lt (blk_lt BK343.out) : gb343 ≠ gb364)); have NB364_343 := Aside0.mk ((by rw [hg]; exact Nat.ne_of_gt (blk_lt BK343.out) : gb364 ≠ gb343)); replace BK343 := bl_ BK343 hb; have NB344_364 := Aside0.mk ((by rw [hg]; exact Nat.ne_of_lt (blk_lt BK344.out) : gb344 ≠ gb364)); have NB364_344 := Aside0.mk ((by rw [hg]; exact Nat.ne_of_gt (blk_lt BK344.out) : gb364 ≠ gb344)); replace BK344 := bl_ BK344 hb; have NB351_364 := Aside0.mk ((by rw [hg]; exact Nat.ne_of_lt (blk_lt BK351.out) : gb351 ≠ gb364)); have NB364_351 := Aside0.mk ((by rw [hg]; exact Nat.ne_of_gt (blk_lt BK351.out) : gb364 ≠ gb351)); replace BK351 := bl_ BK351 hb; have NB358_364 := Aside0.mk ((by rw [hg]; exact Nat.ne_of_lt (blk_lt BK358.out) : gb358 ≠ gb364)); have NB364_358 := Aside0.mk ((by rw [hg]; exact Nat.ne_of_gt (blk_lt BK358.out) : gb364 ≠ gb358)); replace BK358 := bl_ BK358 hb; clear hb hbox hg; have hnb122 := NB364_300.out; have hnc122 := NB300_364.out; have hnb123 := NB364_305.out; have hnc123 := NB305_364.out; have hnb124 := NB364_312.out; have hnc124 := NB312_364.out; have hnb125 := NB364_322.out; have hnc125 := NB322_364.out; have hnb126 := NB364_332.out; have hnc126 := NB332_364.out; have hnb127 := NB364_333.out; have hnc127 := NB333_364.out; have hnb128 := NB364_343.out; have hnc128 := NB343_364.out; have hnb129 := NB364_344.out; have hnc129 := NB344_364.out; have hnb130 := NB364_351.out; have hnc130 := NB351_364.out; have hnb131 := NB364_358.out; have hnc131 := NB358_364.out; have hcz132_0 : w121.cell? ⟨gb364, 0, none⟩ = some (.int .i64 0) := (blk_cell BK364.out 0).trans rfl; have hcz132_1 : w121.cell? ⟨gb364, 1, none⟩ = some (.slice none 0 0) := (blk_cell BK364.out 1).trans rfl; have hfz132_0 := blk_frozen BK364.out 0; have hfz132_1 := blk_frozen BK364.out 1; obtain ⟨Ao133, co133, eo133⟩ := Kd.R_slice HO362.out; subst eo133; have hcz134_0 : w121.cell? ⟨gb305, 0, none⟩ = some (.int .i64 a0_0) := (blk_cell BK305.out 0).trans rfl; have hcz134_1 : w121.cell? ⟨gb305, 1, none⟩ = some (.slice Ao33 t302.length co33) := (blk_cell BK305.out 1).trans rfl; have hfz134_0 := blk_frozen BK305.out 0; have hfz134_1 := blk_frozen BK305.out 1) | ((with_reducible refine gate_callee (f := 18) rfl ?_); refine goesL_ (some 108) rfl rfl Try.func18 (by kernel_rfl) rfl #[.agg #[.int .i64 a0_0, .slice Ao33 t302.length co33], .slice A5 l5.length c5] rfl (by (try simp only [List.map_toArray, List.map_cons, List.map_nil]); first | done | rfl | (simp only [List.length_drop, List.length_take]; rfl)) ?_; (with_reducible refine (watchmanref21_Only.calls kj6 a0_0 _ _ t302 _ _ l5 t365 t366 t369 _ ?side1 ?side2 ?side3 ?side4 A25.out).mono ?_); (case side1 => refine (Kd.R_reads' (e := 35) (base := w.heap.size) (ok := fun k_ => ((((((((some k_ ≠ (.slice Ao43 t307.length co43 : Value).ownBlock ∧ some k_ ≠ (.slice Ao52 t317.length co52 : Value).ownBlock) ∧ some k_ ≠ (.slice Ao65 t324.length co65 : Value).ownBlock) ∧ k_ ≠ gb333) ∧ some k_ ≠ (.slice Ao84 t335.length co84 : Value).ownBlock) ∧ k_ ≠ gb344) ∧ some k_ ≠ (.slice Ao104 t346.length co104 : Value).ownBlock) ∧ some k_ ≠ (.slice Ao118 t353.length co118 : Value).ownBlock) ∧ some k_ ≠ (.slice Ao133 t360.length co133 : Value).ownBlock)) (n := t302.length) (c := co33) ?_).2.2; exact (by (with_reducible repeat (first | apply Kd.R_alloc | apply Kd.R_drewN | apply Kd.R_drew)); exact (Kd.R_mono (rf2 (Kd.R_types HO304.out BK364.out (by decide)) (fun _ hk => hk.2) (.int .i64 t359) (.slice Ao133 t360.length co133)) (fun _ h_ => h_.1)))); (case side2 => exact (Kd.R_reads' HO304.out).2.1); (case side3 => exact Kd.C_below HR5.out (by repeat (with_reducible first | exact HB.out | apply pw_below_drewN | apply below_drew1 | refine below_set ?_ (Aside0.out (by assumption))))); (case side4 => exact HC5.out); rintro e w135 ⟨v367, rfl, ho0, hb⟩; refine ⟨_, rfl, ?_⟩; replace HO315 := Aside0.mk (Kd.R_below (by (with_reducible repeat (first | apply Kd.R_alloc | apply Kd.R_drewN | apply Kd.R_drew)); exact (Kd.R_mono (rf2 (Kd.R_types HO315.out BK364.out (by decide)) (fun _ hk => hk.2) (.int .i64 t359) (.slice Ao133 t360.length co133)) (fun _ h_ => h_.1))) hb); have HO368 := Aside0.mk (Kd.R_lower (Kd.R_newB (Kd.R_newB (Kd.R_new' (Kd.R_new' (Kd.R_new' (Kd.R_new' (Kd.R_new' (Kd.R_new' (Kd.R_new' (Kd.R_new' ho0 (Kd.R_lt (by (with_reducible repeat (first | apply Kd.R_alloc | apply Kd.R_drewN | apply Kd.R_drew)); exact (Kd.R_mono (rf2 (Kd.R_types HO304.out BK364.out (by decide)) (fun _ hk => hk.2) (.int .i64 t359) (.slice Ao133 t360.length co133)) (fun _ h_ => h_.1))))) (Kd.R_lt (by (with_reducible repeat (first | apply Kd.R_alloc | apply Kd.R_drewN | apply Kd.R_drew)); exact (Kd.R_mono (rf2 (Kd.R_types HO309.out BK364.out (by decide)) (fun _ hk => hk.2) (.int .i64 t359) (.slice Ao133 t360.length co133)) (fun _ h_ => h_.1))))) (Kd.R_lt (by (with_reducible repeat (first | apply Kd.R_alloc | apply Kd.R_drewN | apply Kd.R_drew)); exact (Kd.R_mono (rf2 (Kd.R_types HO319.out BK364.out (by decide)) (fun _ hk => hk.2) (.int .i64 t359) (.slice Ao133 t360.length co133)) (fun _ h_ => h_.1))))) (Kd.R_lt (by (with_reducible repeat (first | apply Kd.R_alloc | apply Kd.R_drewN | apply Kd.R_drew)); exact (Kd.R_mono (rf2 (Kd.R_types HO326.out BK364.out (by decide)) (fun _ hk => hk.2) (.int .i64 t359) (.slice Ao133 t360.length co133)) (fun _ h_ => h_.1))))) (Kd.R_lt (by (with_reducible repeat (first | apply Kd.R_alloc | apply Kd.R_drewN | apply Kd.R_drew)); exact (Kd.R_mono (rf2 (Kd.R_types HO337.out BK364.out (by decide)) (fun _ hk => hk.2) (.int .i64 t359) (.slice Ao133 t360.length co133)) (fun _ h_ => h_.1))))) (Kd.R_lt (by (with_reducible repeat (first | apply Kd.R_alloc | apply Kd.R_drewN | apply Kd.R_drew)); exact (Kd.R_mono (rf2 (Kd.R_types HO348.out BK364.out (by decide)) (fun _ hk => hk.2) (.int .i64 t359) (.slice Ao133 t360.length co133)) (fun _ h_ => h_.1))))) (Kd.R_lt (by (with_reducible repeat (first | apply Kd.R_alloc | apply Kd.R_drewN | apply Kd.R_drew)); exact (Kd.R_mono (rf2 (Kd.R_types HO355.out BK364.out (by decide)) (fun _ hk => hk.2) (.int .i64 t359) (.slice Ao133 t360.length co133)) (fun _ h_ => h_.1))))) (Kd.R_lt (by (with_reducible repeat (first | apply Kd.R_alloc | apply Kd.R_drewN | apply Kd.R_drew)); exact (Kd.R_mono (rf2 (Kd.R_types HO362.out BK364.out (by decide)) (fun _ hk => hk.2) (.int .i64 t359) (.slice Ao133 t360.length co133)) (fun _ h_ => h_.1))))) (g := gb333) (o := .cells #[.int .i64 t327, .int .i64 t328, .int .i64 t329, .string t330] 35 (0, 0)) (by refine blk_far ?_ NB333_364.out _; refine blk_far ?_ NB333_364.out _; exact BK333.out)) (g := gb344) (o := .cells #[.int .i64 t338, .int .i64 t339, .int .i64 t340, .string t341] 35 (0, 0)) (by refine blk_far ?_ NB344_364.out _; refine blk_far ?_ NB344_364.out _; exact BK344.out)) (below_size (by repeat (with_reducible first | exact HB.out | apply pw_below_drewN | apply below_drew1 | refine below_set ?_ (Aside0.out (by assumption)))))); replace HO304 := Aside0.mk (Kd.R_elder' (by (with_reducible repeat (first | apply Kd.R_alloc | apply Kd.R_drewN | apply Kd.R_drew)); exact (Kd.R_mono (rf2 (Kd.R_types HO304.out BK364.out (by decide)) (fun _ hk => hk.2) (.int .i64 t359) (.slice Ao133 t360.length co133)) (fun _ h_ => h_.1))) (Kd.R_base ho0) hb); replace HO309 := Aside0.mk (Kd.R_elder' (by (with_reducible repeat (first | apply Kd.R_alloc | apply Kd.R_drewN | apply Kd.R_drew)); exact (Kd.R_mono (rf2 (Kd.R_types HO309.out BK364.out (by decide)) (fun _ hk => hk.2) (.int .i64 t359) (.slice Ao133 t360.length co133)) (fun _ h_ => h_.1))) (Kd.R_base ho0) hb); replace HO319 := Aside0.mk (Kd.R_elder' (by (with_reducible repeat (first | apply Kd.R_alloc | apply Kd.R_drewN | apply Kd.R_drew)); exact (Kd.R_mono (rf2 (Kd.R_types HO319.out BK364.out (by decide)) (fun _ hk => hk.2) (.int .i64 t359) (.slice Ao133 t360.length co133)) (fun _ h_ => h_.1))) (Kd.R_base ho0) hb); replace HO326 := Aside0.mk (Kd.R_elder' (by (with_reducible repeat (first | apply Kd.R_alloc | apply Kd.R_drewN | apply Kd.R_drew)); exact (Kd.R_mono (rf2 (Kd.R_types HO326.out BK364.out (by decide)) (fun _ hk => hk.2) (.int .i64 t359) (.slice Ao133 t360.length co133)) (fun _ h_ => h_.1))) (Kd.R_base ho0) hb); replace HO337 := Aside0.mk (Kd.R_elder' (by (with_reducible repeat (first | apply Kd.R_alloc | apply Kd.R_drewN | apply Kd.R_drew)); exact (Kd.R_mono (rf2 (Kd.R_types HO337.out BK364.out (by decide)) (fun _ hk => hk.2) (.int .i64 t359) (.slice Ao133 t360.length co133)) (fun _ h_ => h_.1))) (Kd.R_base ho0) hb); replace HO348 := Aside0.mk (Kd.R_elder' (by (with_reducible repeat (first | apply Kd.R_alloc | apply Kd.R_drewN | apply Kd.R_drew)); exact (Kd.R_mono (rf2 (Kd.R_types HO348.out BK364.out (by decide)) (fun _ hk => hk.2) (.int .i64 t359) (.slice Ao133 t360.length co133)) (fun _ h_ => h_.1))) (Kd.R_base ho0) hb); replace HO355 := Aside0.mk (Kd.R_elder' (by (with_reducible repeat (first | apply Kd.R_alloc | apply Kd.R_drewN | apply Kd.R_drew)); exact (Kd.R_mono (rf2 (Kd.R_types HO355.out BK364.out (by decide)) (fun _ hk => hk.2) (.int .i64 t359) (.slice Ao133 t360.length co133)) (fun _ h_ => h_.1))) (Kd.R_base ho0) hb); replace HO362 := Aside0.mk (Kd.R_elder' (by (with_reducible repeat (first | apply Kd.R_alloc | apply Kd.R_drewN | apply Kd.R_drew)); exact (Kd.R_mono (rf2 (Kd.R_types HO362.out BK364.out (by decide)) (fun _ hk => hk.2) (.int .i64 t359) (.slice Ao133 t360.length co133)) (fun _ h_ => h_.1))) (Kd.R_base ho0) hb); replace BK300 := Aside0.mk (blk_below (g := gb300) (o := .cells #[.int .i64 a0_0, .slice A0_1 l0_1.length c0_1] 24 (0, 0)) (by refine blk_far ?_ NB300_364.out _; refine blk_far ?_ NB300_364.out _; exact BK300.out) hb); replace BK305 := Aside0.mk (blk_below (g := gb305) (o := .cells #[.int .i64 a0_0, .slice Ao33 t302.length co33] 24 (0, 0)) (by refine blk_far ?_ NB305_364.out _; refine blk_far ?_ NB305_364.out _; exact BK305.out) hb); replace BK312 := Aside0.mk (blk_below (g := gb312) (o := .cells #[.int .i64 t306, .slice Ao43 t307.length co43] 24 (0, 0)) (by refine blk_far ?_ NB312_364.out _; refine blk_far ?_ NB312_364.out _; exact BK312.out) hb); replace BK322 := Aside0.mk (blk_below (g := gb322) (o := .cells #[.int .i64 t316, .slice Ao52 t317.length co52] 24 (0, 0)) (by refine blk_far ?_ NB322_364.out _; refine blk_far ?_ NB322_364.out _; exact BK322.out) hb); replace BK332 := Aside0.mk (blk_below (g := gb332) (o := .cells #[.int .i64 t323, .slice Ao65 t324.length co65] 24 (0, 0)) (by refine blk_far ?_ NB332_364.out _; refine blk_far ?_ NB332_364.out _; exact BK332.out) hb); replace BK333 := Aside0.mk (blk_below (g := gb333) (o := .cells #[.int .i64 t327, .int .i64 t328, .int .i64 t329, .string t330] 35 (0, 0)) (by refine blk_far ?_ NB333_364.out _; refine blk_far ?_ NB333_364.out _; exact BK333.out) hb); replace BK343 := Aside0.mk (blk_below (g := gb343) (o := .cells #[.int .i64 t334, .slice Ao84 t335.length co84] 24 (0, 0)) (by refine blk_far ?_ NB343_364.out _; refine blk_far ?_ NB343_364.out _; exact BK343.out) hb); replace BK344 := Aside0.mk (blk_below (g := gb344) (o := .cells #[.int .i64 t338, .int .i64 t339, .int .i64 t340, .string t341] 35 (0, 0)) (by refine blk_far ?_ NB344_364.out _; refine blk_far ?_ NB344_364.out _; exact BK344.out) hb); replace BK351 := Aside0.mk (blk_below (g := gb351) (o := .cells #[.int .i64 t345, .slice Ao104 t346.length co104] 24 (0, 0)) (by refine blk_far ?_ NB351_364.out _; refine blk_far ?_ NB351_364.out _; exact BK351.out) hb); replace BK358 := Aside0.mk (blk_below (g := gb358) (o := .cells #[.int .i64 t352, .slice Ao118 t353.length co118] 24 (0, 0)) (by refine blk_far ?_ NB358_364.out _; refine blk_far ?_ NB358_364.out _; exact BK358.out) hb); replace BK364 := Aside0.mk (blk_below (g := gb364) (o := .cells #[.int .i64 t359, .slice Ao133 t360.length co133] 24 (0, 0)) (by refine blk_put (cs := #[.int .i64 t359, .slice none 0 0]) ?_ 1 _ rfl; refine blk_put (cs := #[.int .i64 0, .slice none 0 0]) ?_ 0 _ rfl; exact BK364.out) hb); replace HB := Aside0.mk (below_step (by repeat (with_reducible first | exact HB.out | apply pw_below_drewN | apply below_drew1 | refine below_set ?_ (Aside0.out (by assumption)))) hb); (try clear hb); (try clear hb2); (try clear hk); (try clear hi); (try clear ho0)) | ((with_reducible refine gate_dst (N := 34) rfl ?_); (try (refine gate_guard (by rfl) ?_; dsimp only)); refine box_event ?hg (N := 34) ?hd (cs := #[.int .i64 0, .slice none 0 0]) (t := 24) ?hr ?_; (case hd => rfl); (case hg => rfl); (case hr => first | (go_simp; done) | (go_simp; rfl)); intro gb370 hg w136 hbox hb; replace HO304 := rb_ HO304 hb; replace HO309 := rb_ HO309 hb; replace HO315 := rb_ HO315 hb; replace HO319 := rb_ HO319 hb; replace HO326 := rb_ HO326 hb; replace HO337 := rb_ HO337 hb; replace HO348 := rb_ HO348 hb; replace HO355 := rb_ HO355 hb; replace HO362 := rb_ HO362 hb; replace HO368 := rb_ HO368 hb; have BK370 := Aside0.mk (hbox); have GW370 := Aside0.mk ((by rw [hg]; exact (below_size (by repeat (with_reducible first | exact HB.out | apply pw_below_drewN | apply below_drew1 | refine below_set ?_ (Aside0.out (by assumption))))) : w.heap.size ≤ gb370)); have GE370 := Aside0.mk ((by rw [hg]; exact (below_size (by repeat (with_reducible first | exact HB.out | apply pw_below_drewN | apply below_drew1 | refine below_set ?_ (Aside0.out (by assumption))))) : w.heap.size ≤ gb370)); replace HB := Aside0.mk (below_step (by repeat (with_reducible first | exact HB.out | apply pw_below_drewN | apply below_drew1 | refine below_set ?_ (Aside0.out (by assumption)))) hb); have NB300_370 := Aside0.mk ((by rw [hg]; exact Nat.ne_of_lt (blk_lt BK300.out) : gb300 ≠ gb370)); have NB370_300 := Aside0.mk ((by rw [hg]; exact Nat.ne_of_gt (blk_lt BK300.out) : gb370 ≠ gb300)); replace BK300 := bl_ BK300 hb; have NB305_370 := Aside0.mk ((by rw [hg]; exact Nat.ne_of_lt (blk_lt BK305.out) : gb305 ≠ gb370)); have NB370_305 := Aside0.mk ((by rw [hg]; exact Nat.ne_of_gt (blk_lt BK305.out) : gb370 ≠ gb305)); replace BK305 := bl_ BK305 hb; have NB312_370 := Aside0.mk ((by rw [hg]; exact Nat.ne_of_lt (blk_lt BK312.out) : gb312 ≠ gb370)); have NB370_312 := Aside0.mk ((by rw [hg]; exact Nat.ne_of_gt (blk_lt BK312.out) : gb370 ≠ gb312)); replace BK312 := bl_ BK312 hb; have NB322_370 := Aside0.mk ((by rw [hg]; exact Nat.ne_of_lt (blk_lt BK322.out) : gb322 ≠ gb370)); have NB370_322 := Aside0.mk ((by rw [hg]; exact Nat.ne_of_gt (blk_lt BK322.out) : gb370 ≠ gb322)); replace BK322 := bl_ BK322 hb; have NB332_370 := Aside0.mk ((by rw [hg]; exact Nat.ne_of_lt (blk_lt BK332.out) : gb332 ≠ gb370)); have NB370_332 := Aside0.mk ((by rw [hg]; exact Nat.ne_of_gt (blk_lt BK332.out) : gb370 ≠ gb332)); replace BK332 := bl_ BK332 hb; have NB333_370 := Aside0.mk ((by rw [hg]; exact Nat.ne_of_lt (blk_lt BK333.out) : gb333 ≠ gb370)); have NB370_333 := Aside0.mk ((by rw [hg]; exact Nat.ne_of_gt (blk_lt BK333.out) : gb370 ≠ gb333)); replace BK333 := bl_ BK333 hb; have NB343_370 := Aside0.mk ((by rw [hg]; exact Nat.ne_of_lt (blk_lt BK343.out) : gb343 ≠ gb370)); have NB370_343 := Aside0.mk ((by rw [hg]; exact Nat.ne_of_gt (blk_lt BK343.out) : gb370 ≠ gb343)); replace BK343 := bl_ BK343 hb; have NB344_370 := Aside0.mk ((by rw [hg]; exact Nat.ne_of_lt (blk_lt BK344.out) : gb344 ≠ gb370)); have NB370_344 := Aside0.mk ((by rw [hg]; exact Nat.ne_of_gt (blk_lt BK344.out) : gb370 ≠ gb344)); replace BK344 := bl_ BK344 hb; have NB351_370 := Aside0.mk ((by rw [hg]; exact Nat.ne_of_lt (blk_lt BK351.out) : gb351 ≠ gb370)); have NB370_351 := Aside0.mk ((by rw [hg]; exact Nat.ne_of_gt (blk_lt BK351.out) : gb370 ≠ gb351)); replace BK351 := bl_ BK351 hb; have NB358_370 := Aside0.mk ((by rw [hg]; exact Nat.ne_of_lt (blk_lt BK358.out) : gb358 ≠ gb370)); have NB370_358 := Aside0.mk ((by rw [hg]; exact Nat.ne_of_gt (blk_lt BK358.out) : gb370 ≠ gb358)); replace BK358 := bl_ BK358 hb; have NB364_370 := Aside0.mk ((by rw [hg]; exact Nat.ne_of_lt (blk_lt BK364.out) : gb364 ≠ gb370)); have NB370_364 := Aside0.mk ((by rw [hg]; exact Nat.ne_of_gt (blk_lt BK364.out) : gb370 ≠ gb364)); replace BK364 := bl_ BK364 hb; clear hb hbox hg; have hnb137 := NB370_300.out; have hnc137 := NB300_370.out; have hnb138 := NB370_305.out; have hnc138 := NB305_370.out; have hnb139 := NB370_312.out; have hnc139 := NB312_370.out; have hnb140 := NB370_322.out; have hnc140 := NB322_370.out; have hnb141 := NB370_332.out; have hnc141 := NB332_370.out; have hnb142 := NB370_333.out; have hnc142 := NB333_370.out; have hnb143 := NB370_343.out; have hnc143 := NB343_370.out; have hnb144 := NB370_344.out; have hnc144 := NB344_370.out; have hnb145 := NB370_351.out; have hnc145 := NB351_370.out; have hnb146 := NB370_358.out; have hnc146 := NB358_370.out; have hnb147 := NB370_364.out; have hnc147 := NB364_370.out; have hcz148_0 : w136.cell? ⟨gb370, 0, none⟩ = some (.int .i64 0) := (blk_cell BK370.out 0).trans rfl; have hcz148_1 : w136.cell? ⟨gb370, 1, none⟩ = some (.slice none 0 0) := (blk_cell BK370.out 1).trans rfl; have hfz148_0 := blk_frozen BK370.out 0; have hfz148_1 := blk_frozen BK370.out 1; obtain ⟨Ao149, co149, eo149⟩ := Kd.R_slice HO368.out; subst eo149; have hcz150_0 : w136.cell? ⟨gb300, 0, none⟩ = some (.int .i64 a0_0) := (blk_cell BK300.out 0).trans rfl; have hcz150_1 : w136.cell? ⟨gb300, 1, none⟩ = some (.slice A0_1 l0_1.length c0_1) := (blk_cell BK300.out 1).trans rfl; have hfz150_0 := blk_frozen BK300.out 0; have hfz150_1 := blk_frozen BK300.out 1) | ((with_reducible refine gate_callee (f := 19) rfl ?_); refine goesL_ (some 113) rfl rfl Try.func19 (by kernel_rfl) rfl #[.agg #[.int .i64 a0_0, .slice A0_1 l0_1.length c0_1], .int .i64 a2] rfl (by (try simp only [List.map_toArray, List.map_cons, List.map_nil]); first | done | rfl | (simp only [List.length_drop, List.length_take]; rfl)) ?_; (with_reducible refine (post_To.calls a0_0 _ _ l0_1 a2 t371 _ ?side1 ?side2 A26.out).mono ?_); (case side1 => exact Kd.C_below HR0_1.out (by repeat (with_reducible first | exact HB.out | apply pw_below_drewN | apply below_drew1 | refine below_set ?_ (Aside0.out (by assumption))))); (case side2 => exact HC0_1.out); rintro e w151 ⟨v372, rfl, ho0, hb⟩; refine ⟨_, rfl, ?_⟩; replace HO315 := Aside0.mk (Kd.R_below (by (with_reducible repeat (first | apply Kd.R_alloc | apply Kd.R_drewN | apply Kd.R_drew)); exact (Kd.R_mono (rf2 (Kd.R_types HO315.out BK370.out (by decide)) (fun _ hk => hk.2) (.int .i64 t365) (.slice Ao149 t366.length co149)) (fun _ h_ => h_.1))) hb); have HO373 := Aside0.mk (Kd.R_lower (Kd.R_newB (Kd.R_newB (Kd.R_new' (Kd.R_new' (Kd.R_new' (Kd.R_new' (Kd.R_new' (Kd.R_new' (Kd.R_new' (Kd.R_new' (Kd.R_new' ho0 (Kd.R_lt (by (with_reducible repeat (first | apply Kd.R_alloc | apply Kd.R_drewN | apply Kd.R_drew)); exact (Kd.R_mono (rf2 (Kd.R_types HO304.out BK370.out (by decide)) (fun _ hk => hk.2) (.int .i64 t365) (.slice Ao149 t366.length co149)) (fun _ h_ => h_.1))))) (Kd.R_lt (by (with_reducible repeat (first | apply Kd.R_alloc | apply Kd.R_drewN | apply Kd.R_drew)); exact (Kd.R_mono (rf2 (Kd.R_types HO309.out BK370.out (by decide)) (fun _ hk => hk.2) (.int .i64 t365) (.slice Ao149 t366.length co149)) (fun _ h_ => h_.1))))) (Kd.R_lt (by (with_reducible repeat (first | apply Kd.R_alloc | apply Kd.R_drewN | apply Kd.R_drew)); exact (Kd.R_mono (rf2 (Kd.R_types HO319.out BK370.out (by decide)) (fun _ hk => hk.2) (.int .i64 t365) (.slice Ao149 t366.length co149)) (fun _ h_ => h_.1))))) (Kd.R_lt (by (with_reducible repeat (first | apply Kd.R_alloc | apply Kd.R_drewN | apply Kd.R_drew)); exact (Kd.R_mono (rf2 (Kd.R_types HO326.out BK370.out (by decide)) (fun _ hk => hk.2) (.int .i64 t365) (.slice Ao149 t366.length co149)) (fun _ h_ => h_.1))))) (Kd.R_lt (by (with_reducible repeat (first | apply Kd.R_alloc | apply Kd.R_drewN | apply Kd.R_drew)); exact (Kd.R_mono (rf2 (Kd.R_types HO337.out BK370.out (by decide)) (fun _ hk => hk.2) (.int .i64 t365) (.slice Ao149 t366.length co149)) (fun _ h_ => h_.1))))) (Kd.R_lt (by (with_reducible repeat (first | apply Kd.R_alloc | apply Kd.R_drewN | apply Kd.R_drew)); exact (Kd.R_mono (rf2 (Kd.R_types HO348.out BK370.out (by decide)) (fun _ hk => hk.2) (.int .i64 t365) (.slice Ao149 t366.length co149)) (fun _ h_ => h_.1))))) (Kd.R_lt (by (with_reducible repeat (first | apply Kd.R_alloc | apply Kd.R_drewN | apply Kd.R_drew)); exact (Kd.R_mono (rf2 (Kd.R_types HO355.out BK370.out (by decide)) (fun _ hk => hk.2) (.int .i64 t365) (.slice Ao149 t366.length co149)) (fun _ h_ => h_.1))))) (Kd.R_lt (by (with_reducible repeat (first | apply Kd.R_alloc | apply Kd.R_drewN | apply Kd.R_drew)); exact (Kd.R_mono (rf2 (Kd.R_types HO362.out BK370.out (by decide)) (fun _ hk => hk.2) (.int .i64 t365) (.slice Ao149 t366.length co149)) (fun _ h_ => h_.1))))) (Kd.R_lt (by (with_reducible repeat (first | apply Kd.R_alloc | apply Kd.R_drewN | apply Kd.R_drew)); exact (Kd.R_mono (rf2 (Kd.R_types HO368.out BK370.out (by decide)) (fun _ hk => hk.2) (.int .i64 t365) (.slice Ao149 t366.length co149)) (fun _ h_ => h_.1))))) (g := gb333) (o := .cells #[.int .i64 t327, .int .i64 t328, .int .i64 t329, .string t330] 35 (0, 0)) (by refine blk_far ?_ NB333_370.out _; refine blk_far ?_ NB333_370.out _; exact BK333.out)) (g := gb344) (o := .cells #[.int .i64 t338, .int .i64 t339, .int .i64 t340, .string t341] 35 (0, 0)) (by refine blk_far ?_ NB344_370.out _; refine blk_far ?_ NB344_370.out _; exact BK344.out)) (below_size (by repeat (with_reducible first | exact HB.out | apply pw_below_drewN | apply below_drew1 | refine below_set ?_ (Aside0.out (by assumption)))))); replace HO304 := Aside0.mk (Kd.R_elder' (by (with_reducible repeat (first | apply Kd.R_alloc | apply Kd.R_drewN | apply Kd.R_drew)); exact (Kd.R_mono (rf2 (Kd.R_types HO304.out BK370.out (by decide)) (fun _ hk => hk.2) (.int .i64 t365) (.slice Ao149 t366.length co149)) (fun _ h_ => h_.1))) (Kd.R_base ho0) hb); replace HO309 := Aside0.mk (Kd.R_elder' (by (with_reducible repeat (first | apply Kd.R_alloc | apply Kd.R_drewN | apply Kd.R_drew)); exact (Kd.R_mono (rf2 (Kd.R_types HO309.out BK370.out (by decide)) (fun _ hk => hk.2) (.int .i64 t365) (.slice Ao149 t366.length co149)) (fun _ h_ => h_.1))) (Kd.R_base ho0) hb); replace HO319 := Aside0.mk (Kd.R_elder' (by (with_reducible repeat (first | apply Kd.R_alloc | apply Kd.R_drewN | apply Kd.R_drew)); exact (Kd.R_mono (rf2 (Kd.R_types HO319.out BK370.out (by decide)) (fun _ hk => hk.2) (.int .i64 t365) (.slice Ao149 t366.length co149)) (fun _ h_ => h_.1))) (Kd.R_base ho0) hb); replace HO326 := Aside0.mk (Kd.R_elder' (by (with_reducible repeat (first | apply Kd.R_alloc | apply Kd.R_drewN | apply Kd.R_drew)); exact (Kd.R_mono (rf2 (Kd.R_types HO326.out BK370.out (by decide)) (fun _ hk => hk.2) (.int .i64 t365) (.slice Ao149 t366.length co149)) (fun _ h_ => h_.1))) (Kd.R_base ho0) hb); replace HO337 := Aside0.mk (Kd.R_elder' (by (with_reducible repeat (first | apply Kd.R_alloc | apply Kd.R_drewN | apply Kd.R_drew)); exact (Kd.R_mono (rf2 (Kd.R_types HO337.out BK370.out (by decide)) (fun _ hk => hk.2) (.int .i64 t365) (.slice Ao149 t366.length co149)) (fun _ h_ => h_.1))) (Kd.R_base ho0) hb); replace HO348 := Aside0.mk (Kd.R_elder' (by (with_reducible repeat (first | apply Kd.R_alloc | apply Kd.R_drewN | apply Kd.R_drew)); exact (Kd.R_mono (rf2 (Kd.R_types HO348.out BK370.out (by decide)) (fun _ hk => hk.2) (.int .i64 t365) (.slice Ao149 t366.length co149)) (fun _ h_ => h_.1))) (Kd.R_base ho0) hb); replace HO355 := Aside0.mk (Kd.R_elder' (by (with_reducible repeat (first | apply Kd.R_alloc | apply Kd.R_drewN | apply Kd.R_drew)); exact (Kd.R_mono (rf2 (Kd.R_types HO355.out BK370.out (by decide)) (fun _ hk => hk.2) (.int .i64 t365) (.slice Ao149 t366.length co149)) (fun _ h_ => h_.1))) (Kd.R_base ho0) hb); replace HO362 := Aside0.mk (Kd.R_elder' (by (with_reducible repeat (first | apply Kd.R_alloc | apply Kd.R_drewN | apply Kd.R_drew)); exact (Kd.R_mono (rf2 (Kd.R_types HO362.out BK370.out (by decide)) (fun _ hk => hk.2) (.int .i64 t365) (.slice Ao149 t366.length co149)) (fun _ h_ => h_.1))) (Kd.R_base ho0) hb); replace HO368 := Aside0.mk (Kd.R_elder' (by (with_reducible repeat (first | apply Kd.R_alloc | apply Kd.R_drewN | apply Kd.R_drew)); exact (Kd.R_mono (rf2 (Kd.R_types HO368.out BK370.out (by decide)) (fun _ hk => hk.2) (.int .i64 t365) (.slice Ao149 t366.length co149)) (fun _ h_ => h_.1))) (Kd.R_base ho0) hb); replace BK300 := Aside0.mk (blk_below (g := gb300) (o := .cells #[.int .i64 a0_0, .slice A0_1 l0_1.length c0_1] 24 (0, 0)) (by refine blk_far ?_ NB300_370.out _; refine blk_far ?_ NB300_370.out _; exact BK300.out) hb); replace BK305 := Aside0.mk (blk_below (g := gb305) (o := .cells #[.int .i64 a0_0, .slice Ao33 t302.length co33] 24 (0, 0)) (by refine blk_far ?_ NB305_370.out _; refine blk_far ?_ NB305_370.out _; exact BK305.out) hb); replace BK312 := Aside0.mk (blk_below (g := gb312) (o := .cells #[.int .i64 t306, .slice Ao43 t307.length co43] 24 (0, 0)) (by refine blk_far ?_ NB312_370.out _; refine blk_far ?_ NB312_370.out _; exact BK312.out) hb); replace BK322 := Aside0.mk (blk_below (g := gb322) (o := .cells #[.int .i64 t316, .slice Ao52 t317.length co52] 24 (0, 0)) (by refine blk_far ?_ NB322_370.out _; refine blk_far ?_ NB322_370.out _; exact BK322.out) hb); replace BK332 := Aside0.mk (blk_below (g := gb332) (o := .cells #[.int .i64 t323, .slice Ao65 t324.length co65] 24 (0, 0)) (by refine blk_far ?_ NB332_370.out _; refine blk_far ?_ NB332_370.out _; exact BK332.out) hb); replace BK333 := Aside0.mk (blk_below (g := gb333) (o := .cells #[.int .i64 t327, .int .i64 t328, .int .i64 t329, .string t330] 35 (0, 0)) (by refine blk_far ?_ NB333_370.out _; refine blk_far ?_ NB333_370.out _; exact BK333.out) hb); replace BK343 := Aside0.mk (blk_below (g := gb343) (o := .cells #[.int .i64 t334, .slice Ao84 t335.length co84] 24 (0, 0)) (by refine blk_far ?_ NB343_370.out _; refine blk_far ?_ NB343_370.out _; exact BK343.out) hb); replace BK344 := Aside0.mk (blk_below (g := gb344) (o := .cells #[.int .i64 t338, .int .i64 t339, .int .i64 t340, .string t341] 35 (0, 0)) (by refine blk_far ?_ NB344_370.out _; refine blk_far ?_ NB344_370.out _; exact BK344.out) hb); replace BK351 := Aside0.mk (blk_below (g := gb351) (o := .cells #[.int .i64 t345, .slice Ao104 t346.length co104] 24 (0, 0)) (by refine blk_far ?_ NB351_370.out _; refine blk_far ?_ NB351_370.out _; exact BK351.out) hb); replace BK358 := Aside0.mk (blk_below (g := gb358) (o := .cells #[.int .i64 t352, .slice Ao118 t353.length co118] 24 (0, 0)) (by refine blk_far ?_ NB358_370.out _; refine blk_far ?_ NB358_370.out _; exact BK358.out) hb); replace BK364 := Aside0.mk (blk_below (g := gb364) (o := .cells #[.int .i64 t359, .slice Ao133 t360.length co133] 24 (0, 0)) (by refine blk_far ?_ NB364_370.out _; refine blk_far ?_ NB364_370.out _; exact BK364.out) hb); replace BK370 := Aside0.mk (blk_below (g := gb370) (o := .cells #[.int .i64 t365, .slice Ao149 t366.length co149] 24 (0, 0)) (by refine blk_put (cs := #[.int .i64 t365, .slice none 0 0]) ?_ 1 _ rfl; refine blk_put (cs := #[.int .i64 0, .slice none 0 0]) ?_ 0 _ rfl; exact BK370.out) hb); replace HB := Aside0.mk (below_step (by repeat (with_reducible first | exact HB.out | apply pw_below_drewN | apply below_drew1 | refine below_set ?_ (Aside0.out (by assumption)))) hb); (try clear hb); (try clear hb2); (try clear hk); (try clear hi); (try clear ho0)))
        (try simp only [Act.put, List.setIfInBounds_toArray, List.set_cons_zero, List.set_cons_succ])
        go_cut [37] (fun v37 wc => ∃ (kq : Nat) (x37_26 : Bool), v37 = .bool x37_26 ∧ Aside0 (watchmanlaw21_PostDoes.j1 kq t371 x37_26 a0_0 l0_1 a0_0 t302 t306 t307 t323 t324 t345 t346 t359 t360 = some r) ∧ Aside0 (kq ≤ kj6) ∧ Aside0 (Kd.R k35 35 wc w.heap.size (fun k_ => some k_ ≠ ((.slice Ao33 t302.length co33) : Value).ownBlock ∧ some k_ ≠ ((.slice Ao43 t307.length co43) : Value).ownBlock ∧ some k_ ≠ ((.slice Ao52 t317.length co52) : Value).ownBlock ∧ some k_ ≠ ((.slice Ao65 t324.length co65) : Value).ownBlock ∧ some k_ ≠ ((.slice Ao84 t335.length co84) : Value).ownBlock ∧ some k_ ≠ ((.slice Ao104 t346.length co104) : Value).ownBlock ∧ some k_ ≠ ((.slice Ao118 t353.length co118) : Value).ownBlock ∧ some k_ ≠ ((.slice Ao133 t360.length co133) : Value).ownBlock ∧ some k_ ≠ ((.slice Ao149 t366.length co149) : Value).ownBlock ∧ k_ ≠ gb333 ∧ k_ ≠ gb344) v372 t371) ∧ Aside0 (Kd.R k35 35 wc w.heap.size (fun k_ => some k_ ≠ (v372 : Value).ownBlock ∧ some k_ ≠ ((.slice Ao43 t307.length co43) : Value).ownBlock ∧ some k_ ≠ ((.slice Ao52 t317.length co52) : Value).ownBlock ∧ some k_ ≠ ((.slice Ao65 t324.length co65) : Value).ownBlock ∧ some k_ ≠ ((.slice Ao84 t335.length co84) : Value).ownBlock ∧ some k_ ≠ ((.slice Ao104 t346.length co104) : Value).ownBlock ∧ some k_ ≠ ((.slice Ao118 t353.length co118) : Value).ownBlock ∧ some k_ ≠ ((.slice Ao133 t360.length co133) : Value).ownBlock ∧ some k_ ≠ ((.slice Ao149 t366.length co149) : Value).ownBlock ∧ k_ ≠ gb333 ∧ k_ ≠ gb344) (.slice Ao33 t302.length co33) t302) ∧ Aside0 (Kd.R k35 35 wc w.heap.size (fun k_ => some k_ ≠ (v372 : Value).ownBlock ∧ some k_ ≠ ((.slice Ao33 t302.length co33) : Value).ownBlock ∧ some k_ ≠ ((.slice Ao52 t317.length co52) : Value).ownBlock ∧ some k_ ≠ ((.slice Ao65 t324.length co65) : Value).ownBlock ∧ some k_ ≠ ((.slice Ao84 t335.length co84) : Value).ownBlock ∧ some k_ ≠ ((.slice Ao104 t346.length co104) : Value).ownBlock ∧ some k_ ≠ ((.slice Ao118 t353.length co118) : Value).ownBlock ∧ some k_ ≠ ((.slice Ao133 t360.length co133) : Value).ownBlock ∧ some k_ ≠ ((.slice Ao149 t366.length co149) : Value).ownBlock ∧ k_ ≠ gb333 ∧ k_ ≠ gb344) (.slice Ao43 t307.length co43) t307) ∧ Aside0 (Kd.R k35 35 wc w.heap.size (fun k_ => some k_ ≠ (v372 : Value).ownBlock ∧ some k_ ≠ ((.slice Ao33 t302.length co33) : Value).ownBlock ∧ some k_ ≠ ((.slice Ao43 t307.length co43) : Value).ownBlock ∧ some k_ ≠ ((.slice Ao65 t324.length co65) : Value).ownBlock ∧ some k_ ≠ ((.slice Ao84 t335.length co84) : Value).ownBlock ∧ some k_ ≠ ((.slice Ao104 t346.length co104) : Value).ownBlock ∧ some k_ ≠ ((.slice Ao118 t353.length co118) : Value).ownBlock ∧ some k_ ≠ ((.slice Ao133 t360.length co133) : Value).ownBlock ∧ some k_ ≠ ((.slice Ao149 t366.length co149) : Value).ownBlock ∧ k_ ≠ gb333 ∧ k_ ≠ gb344) (.slice Ao52 t317.length co52) t317) ∧ Aside0 (Kd.R k35 35 wc w.heap.size (fun k_ => some k_ ≠ (v372 : Value).ownBlock ∧ some k_ ≠ ((.slice Ao33 t302.length co33) : Value).ownBlock ∧ some k_ ≠ ((.slice Ao43 t307.length co43) : Value).ownBlock ∧ some k_ ≠ ((.slice Ao52 t317.length co52) : Value).ownBlock ∧ some k_ ≠ ((.slice Ao84 t335.length co84) : Value).ownBlock ∧ some k_ ≠ ((.slice Ao104 t346.length co104) : Value).ownBlock ∧ some k_ ≠ ((.slice Ao118 t353.length co118) : Value).ownBlock ∧ some k_ ≠ ((.slice Ao133 t360.length co133) : Value).ownBlock ∧ some k_ ≠ ((.slice Ao149 t366.length co149) : Value).ownBlock ∧ k_ ≠ gb333 ∧ k_ ≠ gb344) (.slice Ao65 t324.length co65) t324) ∧ Aside0 (Kd.R k35 35 wc w.heap.size (fun k_ => some k_ ≠ (v372 : Value).ownBlock ∧ some k_ ≠ ((.slice Ao33 t302.length co33) : Value).ownBlock ∧ some k_ ≠ ((.slice Ao43 t307.length co43) : Value).ownBlock ∧ some k_ ≠ ((.slice Ao52 t317.length co52) : Value).ownBlock ∧ some k_ ≠ ((.slice Ao65 t324.length co65) : Value).ownBlock ∧ some k_ ≠ ((.slice Ao104 t346.length co104) : Value).ownBlock ∧ some k_ ≠ ((.slice Ao118 t353.length co118) : Value).ownBlock ∧ some k_ ≠ ((.slice Ao133 t360.length co133) : Value).ownBlock ∧ some k_ ≠ ((.slice Ao149 t366.length co149) : Value).ownBlock ∧ k_ ≠ gb333 ∧ k_ ≠ gb344) (.slice Ao84 t335.length co84) t335) ∧ Aside0 (Kd.R k35 35 wc w.heap.size (fun k_ => some k_ ≠ (v372 : Value).ownBlock ∧ some k_ ≠ ((.slice Ao33 t302.length co33) : Value).ownBlock ∧ some k_ ≠ ((.slice Ao43 t307.length co43) : Value).ownBlock ∧ some k_ ≠ ((.slice Ao52 t317.length co52) : Value).ownBlock ∧ some k_ ≠ ((.slice Ao65 t324.length co65) : Value).ownBlock ∧ some k_ ≠ ((.slice Ao84 t335.length co84) : Value).ownBlock ∧ some k_ ≠ ((.slice Ao118 t353.length co118) : Value).ownBlock ∧ some k_ ≠ ((.slice Ao133 t360.length co133) : Value).ownBlock ∧ some k_ ≠ ((.slice Ao149 t366.length co149) : Value).ownBlock ∧ k_ ≠ gb333 ∧ k_ ≠ gb344) (.slice Ao104 t346.length co104) t346) ∧ Aside0 (Kd.R k35 35 wc w.heap.size (fun k_ => some k_ ≠ (v372 : Value).ownBlock ∧ some k_ ≠ ((.slice Ao33 t302.length co33) : Value).ownBlock ∧ some k_ ≠ ((.slice Ao43 t307.length co43) : Value).ownBlock ∧ some k_ ≠ ((.slice Ao52 t317.length co52) : Value).ownBlock ∧ some k_ ≠ ((.slice Ao65 t324.length co65) : Value).ownBlock ∧ some k_ ≠ ((.slice Ao84 t335.length co84) : Value).ownBlock ∧ some k_ ≠ ((.slice Ao104 t346.length co104) : Value).ownBlock ∧ some k_ ≠ ((.slice Ao133 t360.length co133) : Value).ownBlock ∧ some k_ ≠ ((.slice Ao149 t366.length co149) : Value).ownBlock ∧ k_ ≠ gb333 ∧ k_ ≠ gb344) (.slice Ao118 t353.length co118) t353) ∧ Aside0 (Kd.R k35 35 wc w.heap.size (fun k_ => some k_ ≠ (v372 : Value).ownBlock ∧ some k_ ≠ ((.slice Ao33 t302.length co33) : Value).ownBlock ∧ some k_ ≠ ((.slice Ao43 t307.length co43) : Value).ownBlock ∧ some k_ ≠ ((.slice Ao52 t317.length co52) : Value).ownBlock ∧ some k_ ≠ ((.slice Ao65 t324.length co65) : Value).ownBlock ∧ some k_ ≠ ((.slice Ao84 t335.length co84) : Value).ownBlock ∧ some k_ ≠ ((.slice Ao104 t346.length co104) : Value).ownBlock ∧ some k_ ≠ ((.slice Ao118 t353.length co118) : Value).ownBlock ∧ some k_ ≠ ((.slice Ao149 t366.length co149) : Value).ownBlock ∧ k_ ≠ gb333 ∧ k_ ≠ gb344) (.slice Ao133 t360.length co133) t360) ∧ Aside0 (Kd.R k35 35 wc w.heap.size (fun k_ => some k_ ≠ (v372 : Value).ownBlock ∧ some k_ ≠ ((.slice Ao33 t302.length co33) : Value).ownBlock ∧ some k_ ≠ ((.slice Ao43 t307.length co43) : Value).ownBlock ∧ some k_ ≠ ((.slice Ao52 t317.length co52) : Value).ownBlock ∧ some k_ ≠ ((.slice Ao65 t324.length co65) : Value).ownBlock ∧ some k_ ≠ ((.slice Ao84 t335.length co84) : Value).ownBlock ∧ some k_ ≠ ((.slice Ao104 t346.length co104) : Value).ownBlock ∧ some k_ ≠ ((.slice Ao118 t353.length co118) : Value).ownBlock ∧ some k_ ≠ ((.slice Ao133 t360.length co133) : Value).ownBlock ∧ k_ ≠ gb333 ∧ k_ ≠ gb344) (.slice Ao149 t366.length co149) t366) ∧ Aside0 (wc.heap[gb300]? = some (.cells #[.int .i64 a0_0, (.slice A0_1 l0_1.length c0_1)] 24 (0, 0))) ∧ Aside0 (wc.heap[gb305]? = some (.cells #[.int .i64 a0_0, (.slice Ao33 t302.length co33)] 24 (0, 0))) ∧ Aside0 (wc.heap[gb312]? = some (.cells #[.int .i64 t306, (.slice Ao43 t307.length co43)] 24 (0, 0))) ∧ Aside0 (wc.heap[gb322]? = some (.cells #[.int .i64 t316, (.slice Ao52 t317.length co52)] 24 (0, 0))) ∧ Aside0 (wc.heap[gb332]? = some (.cells #[.int .i64 t323, (.slice Ao65 t324.length co65)] 24 (0, 0))) ∧ Aside0 (wc.heap[gb333]? = some (.cells #[.int .i64 t327, .int .i64 t328, .int .i64 t329, .string t330] 35 (0, 0))) ∧ Aside0 (wc.heap[gb343]? = some (.cells #[.int .i64 t334, (.slice Ao84 t335.length co84)] 24 (0, 0))) ∧ Aside0 (wc.heap[gb344]? = some (.cells #[.int .i64 t338, .int .i64 t339, .int .i64 t340, .string t341] 35 (0, 0))) ∧ Aside0 (wc.heap[gb351]? = some (.cells #[.int .i64 t345, (.slice Ao104 t346.length co104)] 24 (0, 0))) ∧ Aside0 (wc.heap[gb358]? = some (.cells #[.int .i64 t352, (.slice Ao118 t353.length co118)] 24 (0, 0))) ∧ Aside0 (wc.heap[gb364]? = some (.cells #[.int .i64 t359, (.slice Ao133 t360.length co133)] 24 (0, 0))) ∧ Aside0 (wc.heap[gb370]? = some (.cells #[.int .i64 t365, (.slice Ao149 t366.length co149)] 24 (0, 0))) ∧ Aside0 (Below w.heap.size w wc))
        case first =>
          have H := HC27.out
          clear HC27
          replace H := Option.bind_eq_some_iff.mp H
          obtain ⟨t374, A1520, H⟩ := H
          replace H : (if t374 = true then (if t310 = t320 then (if t311 = t321 then ((watchmanref21_Same.f kj6 t323 t324 t334 t335).bind fun t375 => (if t375 = true then (if (t327 == t338 && (t328 == t339 && (t329 == t340 && (t330.toList == t341.toList)))) = true then (if t331 = t342 then ((watchmanref21_Same.f kj6 t345 t346 t352 t353).bind fun t376 => (if t376 = true then (if t349 = t356 then (if t350 = t357 then ((watchmanref21_Same.f kj6 t359 t360 t365 t366).bind fun t377 => (if t377 = true then (if t363 = t369 then ((watchmanref21_To.f kj6 a0_0 t302 a2).bind fun t378 => ((watchmanref21_SameLetters.f kj6 t371 t378).bind fun t381 => (watchmanlaw21_PostDoes.j1 kj6 t371 t381 a0_0 l0_1 a0_0 t302 t306 t307 t323 t324 t345 t346 t359 t360))) else (none)) else (none))) else (none)) else (none)) else (none))) else (none)) else (none)) else (none))) else (none)) else (none)) else (none)) = some r := H
          have A152 := Aside0.mk A1520
          clear A1520
          by_cases c153 : t374 = true
          · subst c153
            have H1 : (if t310 = t320 then (if t311 = t321 then ((watchmanref21_Same.f kj6 t323 t324 t334 t335).bind fun t375 => (if t375 = true then (if (t327 == t338 && (t328 == t339 && (t329 == t340 && (t330.toList == t341.toList)))) = true then (if t331 = t342 then ((watchmanref21_Same.f kj6 t345 t346 t352 t353).bind fun t376 => (if t376 = true then (if t349 = t356 then (if t350 = t357 then ((watchmanref21_Same.f kj6 t359 t360 t365 t366).bind fun t377 => (if t377 = true then (if t363 = t369 then ((watchmanref21_To.f kj6 a0_0 t302 a2).bind fun t378 => ((watchmanref21_SameLetters.f kj6 t371 t378).bind fun t381 => (watchmanlaw21_PostDoes.j1 kj6 t371 t381 a0_0 l0_1 a0_0 t302 t306 t307 t323 t324 t345 t346 t359 t360))) else (none)) else (none))) else (none)) else (none)) else (none))) else (none)) else (none)) else (none))) else (none)) else (none)) = some r := by rw [if_pos rfl] at H; exact H
            clear H
            have H := H1
            clear H1
            by_cases c154 : t310 = t320
            · rw [if_pos c154] at H
              have c154b0 : (t310 == t320) = true := beq_iff_eq.mpr c154
              have c154b1 : (t310 != t320) = false := bne_eq_false_iff_eq.mpr c154
              clear c154
              (first | rw [c154b0] | (simp only [i64_w, i32_w]; rw [c154b0]) | skip)
              by_cases c155 : t311 = t321
              · rw [if_pos c155] at H
                have c155b0 : (t311 == t321) = true := beq_iff_eq.mpr c155
                have c155b1 : (t311 != t321) = false := bne_eq_false_iff_eq.mpr c155
                clear c155
                replace H := Option.bind_eq_some_iff.mp H
                obtain ⟨t375, A1560, H⟩ := H
                replace H : (if t375 = true then (if (t327 == t338 && (t328 == t339 && (t329 == t340 && (t330.toList == t341.toList)))) = true then (if t331 = t342 then ((watchmanref21_Same.f kj6 t345 t346 t352 t353).bind fun t376 => (if t376 = true then (if t349 = t356 then (if t350 = t357 then ((watchmanref21_Same.f kj6 t359 t360 t365 t366).bind fun t377 => (if t377 = true then (if t363 = t369 then ((watchmanref21_To.f kj6 a0_0 t302 a2).bind fun t378 => ((watchmanref21_SameLetters.f kj6 t371 t378).bind fun t381 => (watchmanlaw21_PostDoes.j1 kj6 t371 t381 a0_0 l0_1 a0_0 t302 t306 t307 t323 t324 t345 t346 t359 t360))) else (none)) else (none))) else (none)) else (none)) else (none))) else (none)) else (none)) else (none)) = some r := H
                have A156 := Aside0.mk A1560
                clear A1560
                by_cases c157 : t375 = true
                · subst c157
                  have H1 : (if (t327 == t338 && (t328 == t339 && (t329 == t340 && (t330.toList == t341.toList)))) = true then (if t331 = t342 then ((watchmanref21_Same.f kj6 t345 t346 t352 t353).bind fun t376 => (if t376 = true then (if t349 = t356 then (if t350 = t357 then ((watchmanref21_Same.f kj6 t359 t360 t365 t366).bind fun t377 => (if t377 = true then (if t363 = t369 then ((watchmanref21_To.f kj6 a0_0 t302 a2).bind fun t378 => ((watchmanref21_SameLetters.f kj6 t371 t378).bind fun t381 => (watchmanlaw21_PostDoes.j1 kj6 t371 t381 a0_0 l0_1 a0_0 t302 t306 t307 t323 t324 t345 t346 t359 t360))) else (none)) else (none))) else (none)) else (none)) else (none))) else (none)) else (none)) = some r := by rw [if_pos rfl] at H; exact H
                  clear H
                  have H := H1
                  clear H1
                  by_cases c158 : (t327 == t338 && (t328 == t339 && (t329 == t340 && (t330.toList == t341.toList)))) = true
                  · rw [if_pos c158] at H
                    have c158b0 : (t327 == t338 && (t328 == t339 && (t329 == t340 && (t330.toList == t341.toList)))) = true := c158
                    have c158e_ : t327 = t338 ∧ t328 = t339 ∧ t329 = t340 ∧ t330.toList = t341.toList := by simpa using c158
                    obtain ⟨c158e0, c158e1, c158e2, c158e3⟩ := c158e_
                    (try (have c158b1 : decide (t327 = t338 && (t328 == t339 && (t329 == t340 && (t330.toList == t341.toList)))) = true := by simpa using c158))
                    (try (have c158b2 : (t327 == t338 && (t328 == t339 && (t329 == t340 && (t330.toList == t341.toList)))) = true := by simpa using c158))
                    clear c158
                    by_cases c159 : t331 = t342
                    · rw [if_pos c159] at H
                      have c159b0 : (t331 == t342) = true := beq_iff_eq.mpr c159
                      have c159b1 : (t331 != t342) = false := bne_eq_false_iff_eq.mpr c159
                      clear c159
                      replace H := Option.bind_eq_some_iff.mp H
                      obtain ⟨t376, A1600, H⟩ := H
                      replace H : (if t376 = true then (if t349 = t356 then (if t350 = t357 then ((watchmanref21_Same.f kj6 t359 t360 t365 t366).bind fun t377 => (if t377 = true then (if t363 = t369 then ((watchmanref21_To.f kj6 a0_0 t302 a2).bind fun t378 => ((watchmanref21_SameLetters.f kj6 t371 t378).bind fun t381 => (watchmanlaw21_PostDoes.j1 kj6 t371 t381 a0_0 l0_1 a0_0 t302 t306 t307 t323 t324 t345 t346 t359 t360))) else (none)) else (none))) else (none)) else (none)) else (none)) = some r := H
                      have A160 := Aside0.mk A1600
                      clear A1600
                      by_cases c161 : t376 = true
                      · subst c161
                        have H1 : (if t349 = t356 then (if t350 = t357 then ((watchmanref21_Same.f kj6 t359 t360 t365 t366).bind fun t377 => (if t377 = true then (if t363 = t369 then ((watchmanref21_To.f kj6 a0_0 t302 a2).bind fun t378 => ((watchmanref21_SameLetters.f kj6 t371 t378).bind fun t381 => (watchmanlaw21_PostDoes.j1 kj6 t371 t381 a0_0 l0_1 a0_0 t302 t306 t307 t323 t324 t345 t346 t359 t360))) else (none)) else (none))) else (none)) else (none)) = some r := by rw [if_pos rfl] at H; exact H
                        clear H
                        have H := H1
                        clear H1
                        by_cases c162 : t349 = t356
                        · rw [if_pos c162] at H
                          have c162b0 : (t349 == t356) = true := beq_iff_eq.mpr c162
                          have c162b1 : (t349 != t356) = false := bne_eq_false_iff_eq.mpr c162
                          clear c162
                          by_cases c163 : t350 = t357
                          · rw [if_pos c163] at H
                            have c163b0 : (t350 == t357) = true := beq_iff_eq.mpr c163
                            have c163b1 : (t350 != t357) = false := bne_eq_false_iff_eq.mpr c163
                            clear c163
                            replace H := Option.bind_eq_some_iff.mp H
                            obtain ⟨t377, A1640, H⟩ := H
                            replace H : (if t377 = true then (if t363 = t369 then ((watchmanref21_To.f kj6 a0_0 t302 a2).bind fun t378 => ((watchmanref21_SameLetters.f kj6 t371 t378).bind fun t381 => (watchmanlaw21_PostDoes.j1 kj6 t371 t381 a0_0 l0_1 a0_0 t302 t306 t307 t323 t324 t345 t346 t359 t360))) else (none)) else (none)) = some r := H
                            have A164 := Aside0.mk A1640
                            clear A1640
                            by_cases c165 : t377 = true
                            · subst c165
                              have H1 : (if t363 = t369 then ((watchmanref21_To.f kj6 a0_0 t302 a2).bind fun t378 => ((watchmanref21_SameLetters.f kj6 t371 t378).bind fun t381 => (watchmanlaw21_PostDoes.j1 kj6 t371 t381 a0_0 l0_1 a0_0 t302 t306 t307 t323 t324 t345 t346 t359 t360))) else (none)) = some r := by rw [if_pos rfl] at H; exact H
                              clear H
                              have H := H1
                              clear H1
                              by_cases c166 : t363 = t369
                              · rw [if_pos c166] at H
                                have c166b0 : (t363 == t369) = true := beq_iff_eq.mpr c166
                                have c166b1 : (t363 != t369) = false := bne_eq_false_iff_eq.mpr c166
                                clear c166
                                replace H := Option.bind_eq_some_iff.mp H
                                obtain ⟨t378, A1670, H⟩ := H
                                replace H : ((watchmanref21_SameLetters.f kj6 t371 t378).bind fun t381 => (watchmanlaw21_PostDoes.j1 kj6 t371 t381 a0_0 l0_1 a0_0 t302 t306 t307 t323 t324 t345 t346 t359 t360)) = some r := H
                                have A167 := Aside0.mk A1670
                                clear A1670
                                replace H := Option.bind_eq_some_iff.mp H
                                obtain ⟨t381, A1680, H⟩ := H
                                replace H : (watchmanlaw21_PostDoes.j1 kj6 t371 t381 a0_0 l0_1 a0_0 t302 t306 t307 t323 t324 t345 t346 t359 t360) = some r := H
                                have A168 := Aside0.mk A1680
                                clear A1680
                                have H' := Aside0.mk H
                                clear H
                                have hcz180_0 : w151.cell? ⟨gb312, 0, none⟩ = some (.int .i64 t306) := (blk_cell BK312.out 0).trans rfl
                                have hcz180_1 : w151.cell? ⟨gb312, 1, none⟩ = some (.slice Ao43 t307.length co43) := (blk_cell BK312.out 1).trans rfl
                                have hcz191_0 : w151.cell? ⟨gb322, 0, none⟩ = some (.int .i64 t316) := (blk_cell BK322.out 0).trans rfl
                                have hcz191_1 : w151.cell? ⟨gb322, 1, none⟩ = some (.slice Ao52 t317.length co52) := (blk_cell BK322.out 1).trans rfl
                                go_wp2_with (first | ((with_reducible refine gate_callee (f := 20) rfl ?_); refine goesL_ (some 116) rfl rfl Try.func20 (by kernel_rfl) rfl #[.agg #[.int .i64 t306, .slice Ao43 t307.length co43], .agg #[.int .i64 t316, .slice Ao52 t317.length co52]] rfl (by (try simp only [List.map_toArray, List.map_cons, List.map_nil]); first | done | rfl | (simp only [List.length_drop, List.length_take]; rfl)) ?_; (with_reducible refine (watchmanref21_Same.calls kj6 t306 _ _ t307 t316 _ _ t317 true _ ?side1 ?side2 ?side3 ?side4 A152.out).mono ?_); (case side1 => repeat (first | exact (Kd.R_reads' HO309.out).2.2 | (with_reducible refine Kd.C_alloc ?_ _) | (with_reducible refine Kd.C_drewN ?_ _) | (with_reducible refine Kd.C_drew ?_))); (case side2 => exact (Kd.R_reads' HO309.out).2.1); (case side3 => repeat (first | exact (Kd.R_reads' HO319.out).2.2 | (with_reducible refine Kd.C_alloc ?_ _) | (with_reducible refine Kd.C_drewN ?_ _) | (with_reducible refine Kd.C_drew ?_))); (case side4 => exact (Kd.R_reads' HO319.out).2.1); (try clear A152); rintro e w192 ⟨rfl, hb⟩; refine ⟨_, rfl, ?_⟩; replace HO304 := rb_ HO304 hb; replace HO309 := rb_ HO309 hb; replace HO315 := rb_ HO315 hb; replace HO319 := rb_ HO319 hb; replace HO326 := rb_ HO326 hb; replace HO337 := rb_ HO337 hb; replace HO348 := rb_ HO348 hb; replace HO355 := rb_ HO355 hb; replace HO362 := rb_ HO362 hb; replace HO368 := rb_ HO368 hb; replace HO373 := rb_ HO373 hb; replace BK300 := bl_ BK300 hb; replace BK305 := bl_ BK305 hb; replace BK312 := bl_ BK312 hb; replace BK322 := bl_ BK322 hb; replace BK332 := bl_ BK332 hb; replace BK333 := bl_ BK333 hb; replace BK343 := bl_ BK343 hb; replace BK344 := bl_ BK344 hb; replace BK351 := bl_ BK351 hb; replace BK358 := bl_ BK358 hb; replace BK364 := bl_ BK364 hb; replace BK370 := bl_ BK370 hb; replace HB := Aside0.mk (below_step (by repeat (with_reducible first | exact HB.out | apply pw_below_drewN | apply below_drew1 | refine below_set ?_ (Aside0.out (by assumption)))) hb); (try clear hb); (try clear hb2); (try clear hk); (try clear hi); have hnb193 := NB332_300.out; have hnc193 := NB300_332.out; have hnb194 := NB332_305.out; have hnc194 := NB305_332.out; have hnb195 := NB332_333.out; have hnc195 := NB333_332.out; have hnb196 := NB332_343.out; have hnc196 := NB343_332.out; have hnb197 := NB332_344.out; have hnc197 := NB344_332.out; have hnb198 := NB332_351.out; have hnc198 := NB351_332.out; have hnb199 := NB332_358.out; have hnc199 := NB358_332.out; have hnb200 := NB332_364.out; have hnc200 := NB364_332.out; have hnb201 := NB332_370.out; have hnc201 := NB370_332.out; have hcz202_0 : w192.cell? ⟨gb332, 0, none⟩ = some (.int .i64 t323) := (blk_cell BK332.out 0).trans rfl; have hcz202_1 : w192.cell? ⟨gb332, 1, none⟩ = some (.slice Ao65 t324.length co65) := (blk_cell BK332.out 1).trans rfl; have hfz202_0 := blk_frozen BK332.out 0; have hfz202_1 := blk_frozen BK332.out 1; have hnb203 := NB343_300.out; have hnc203 := NB300_343.out; have hnb204 := NB343_305.out; have hnc204 := NB305_343.out; have hnb205 := NB343_333.out; have hnc205 := NB333_343.out; have hnb206 := NB343_344.out; have hnc206 := NB344_343.out; have hnb207 := NB343_351.out; have hnc207 := NB351_343.out; have hnb208 := NB343_358.out; have hnc208 := NB358_343.out; have hnb209 := NB343_364.out; have hnc209 := NB364_343.out; have hnb210 := NB343_370.out; have hnc210 := NB370_343.out; have hcz211_0 : w192.cell? ⟨gb343, 0, none⟩ = some (.int .i64 t334) := (blk_cell BK343.out 0).trans rfl; have hcz211_1 : w192.cell? ⟨gb343, 1, none⟩ = some (.slice Ao84 t335.length co84) := (blk_cell BK343.out 1).trans rfl; have hfz211_0 := blk_frozen BK343.out 0; have hfz211_1 := blk_frozen BK343.out 1) | (go_at_call 20; (with_reducible refine (watchmanref21_Same.calls kj6 t323 _ _ t324 t334 _ _ t335 true _ ?side1 ?side2 ?side3 ?side4 A156.out).mono ?_); (case side1 => repeat (first | exact (Kd.R_reads' HO326.out).2.2 | (with_reducible refine Kd.C_alloc ?_ _) | (with_reducible refine Kd.C_drewN ?_ _) | (with_reducible refine Kd.C_drew ?_))); (case side2 => exact (Kd.R_reads' HO326.out).2.1); (case side3 => repeat (first | exact (Kd.R_reads' HO337.out).2.2 | (with_reducible refine Kd.C_alloc ?_ _) | (with_reducible refine Kd.C_drewN ?_ _) | (with_reducible refine Kd.C_drew ?_))); (case side4 => exact (Kd.R_reads' HO337.out).2.1); (try clear A156); rintro e w212 ⟨rfl, hb⟩; replace HO304 := rb_ HO304 hb; replace HO309 := rb_ HO309 hb; replace HO315 := rb_ HO315 hb; replace HO319 := rb_ HO319 hb; replace HO326 := rb_ HO326 hb; replace HO337 := rb_ HO337 hb; replace HO348 := rb_ HO348 hb; replace HO355 := rb_ HO355 hb; replace HO362 := rb_ HO362 hb; replace HO368 := rb_ HO368 hb; replace HO373 := rb_ HO373 hb; replace BK300 := bl_ BK300 hb; replace BK305 := bl_ BK305 hb; replace BK312 := bl_ BK312 hb; replace BK322 := bl_ BK322 hb; replace BK332 := bl_ BK332 hb; replace BK333 := bl_ BK333 hb; replace BK343 := bl_ BK343 hb; replace BK344 := bl_ BK344 hb; replace BK351 := bl_ BK351 hb; replace BK358 := bl_ BK358 hb; replace BK364 := bl_ BK364 hb; replace BK370 := bl_ BK370 hb; replace HB := Aside0.mk (below_step (by repeat (with_reducible first | exact HB.out | apply pw_below_drewN | apply below_drew1 | refine below_set ?_ (Aside0.out (by assumption)))) hb); (try clear hb); (try clear hb2); (try clear hk); (try clear hi); have hnb213 := NB333_300.out; have hnc213 := NB300_333.out; have hnb214 := NB333_305.out; have hnc214 := NB305_333.out; have hnb215 := NB333_344.out; have hnc215 := NB344_333.out; have hnb216 := NB333_351.out; have hnc216 := NB351_333.out; have hnb217 := NB333_358.out; have hnc217 := NB358_333.out; have hnb218 := NB333_364.out; have hnc218 := NB364_333.out; have hnb219 := NB333_370.out; have hnc219 := NB370_333.out; have hcz220_0 : w212.cell? ⟨gb333, 0, none⟩ = some (.int .i64 t327) := (blk_cell BK333.out 0).trans rfl; have hcz220_1 : w212.cell? ⟨gb333, 1, none⟩ = some (.int .i64 t328) := (blk_cell BK333.out 1).trans rfl; have hcz220_2 : w212.cell? ⟨gb333, 2, none⟩ = some (.int .i64 t329) := (blk_cell BK333.out 2).trans rfl; have hcz220_3 : w212.cell? ⟨gb333, 3, none⟩ = some (.string t330) := (blk_cell BK333.out 3).trans rfl; have hfz220_0 := blk_frozen BK333.out 0; have hfz220_1 := blk_frozen BK333.out 1; have hfz220_2 := blk_frozen BK333.out 2; have hfz220_3 := blk_frozen BK333.out 3; have hnb221 := NB344_300.out; have hnc221 := NB300_344.out; have hnb222 := NB344_305.out; have hnc222 := NB305_344.out; have hnb223 := NB344_351.out; have hnc223 := NB351_344.out; have hnb224 := NB344_358.out; have hnc224 := NB358_344.out; have hnb225 := NB344_364.out; have hnc225 := NB364_344.out; have hnb226 := NB344_370.out; have hnc226 := NB370_344.out; have hcz227_0 : w212.cell? ⟨gb344, 0, none⟩ = some (.int .i64 t338) := (blk_cell BK344.out 0).trans rfl; have hcz227_1 : w212.cell? ⟨gb344, 1, none⟩ = some (.int .i64 t339) := (blk_cell BK344.out 1).trans rfl; have hcz227_2 : w212.cell? ⟨gb344, 2, none⟩ = some (.int .i64 t340) := (blk_cell BK344.out 2).trans rfl; have hcz227_3 : w212.cell? ⟨gb344, 3, none⟩ = some (.string t341) := (blk_cell BK344.out 3).trans rfl; have hfz227_0 := blk_frozen BK344.out 0; have hfz227_1 := blk_frozen BK344.out 1; have hfz227_2 := blk_frozen BK344.out 2; have hfz227_3 := blk_frozen BK344.out 3; have hnb228 := NB351_300.out; have hnc228 := NB300_351.out; have hnb229 := NB351_305.out; have hnc229 := NB305_351.out; have hnb230 := NB351_358.out; have hnc230 := NB358_351.out; have hnb231 := NB351_364.out; have hnc231 := NB364_351.out; have hnb232 := NB351_370.out; have hnc232 := NB370_351.out; have hcz233_0 : w212.cell? ⟨gb351, 0, none⟩ = some (.int .i64 t345) := (blk_cell BK351.out 0).trans rfl; have hcz233_1 : w212.cell? ⟨gb351, 1, none⟩ = some (.slice Ao104 t346.length co104) := (blk_cell BK351.out 1).trans rfl; have hfz233_0 := blk_frozen BK351.out 0; have hfz233_1 := blk_frozen BK351.out 1; have hnb234 := NB358_300.out; have hnc234 := NB300_358.out; have hnb235 := NB358_305.out; have hnc235 := NB305_358.out; have hnb236 := NB358_364.out; have hnc236 := NB364_358.out; have hnb237 := NB358_370.out; have hnc237 := NB370_358.out; have hcz238_0 : w212.cell? ⟨gb358, 0, none⟩ = some (.int .i64 t352) := (blk_cell BK358.out 0).trans rfl; have hcz238_1 : w212.cell? ⟨gb358, 1, none⟩ = some (.slice Ao118 t353.length co118) := (blk_cell BK358.out 1).trans rfl; have hfz238_0 := blk_frozen BK358.out 0; have hfz238_1 := blk_frozen BK358.out 1) | (go_at_call 20; (with_reducible refine (watchmanref21_Same.calls kj6 t345 _ _ t346 t352 _ _ t353 true _ ?side1 ?side2 ?side3 ?side4 A160.out).mono ?_); (case side1 => repeat (first | exact (Kd.R_reads' HO348.out).2.2 | (with_reducible refine Kd.C_alloc ?_ _) | (with_reducible refine Kd.C_drewN ?_ _) | (with_reducible refine Kd.C_drew ?_))); (case side2 => exact (Kd.R_reads' HO348.out).2.1); (case side3 => repeat (first | exact (Kd.R_reads' HO355.out).2.2 | (with_reducible refine Kd.C_alloc ?_ _) | (with_reducible refine Kd.C_drewN ?_ _) | (with_reducible refine Kd.C_drew ?_))); (case side4 => exact (Kd.R_reads' HO355.out).2.1); (try clear A160); rintro e w239 ⟨rfl, hb⟩; replace HO304 := rb_ HO304 hb; replace HO309 := rb_ HO309 hb; replace HO315 := rb_ HO315 hb; replace HO319 := rb_ HO319 hb; replace HO326 := rb_ HO326 hb; replace HO337 := rb_ HO337 hb; replace HO348 := rb_ HO348 hb; replace HO355 := rb_ HO355 hb; replace HO362 := rb_ HO362 hb; replace HO368 := rb_ HO368 hb; replace HO373 := rb_ HO373 hb; replace BK300 := bl_ BK300 hb; replace BK305 := bl_ BK305 hb; replace BK312 := bl_ BK312 hb; replace BK322 := bl_ BK322 hb; replace BK332 := bl_ BK332 hb; replace BK333 := bl_ BK333 hb; replace BK343 := bl_ BK343 hb; replace BK344 := bl_ BK344 hb; replace BK351 := bl_ BK351 hb; replace BK358 := bl_ BK358 hb; replace BK364 := bl_ BK364 hb; replace BK370 := bl_ BK370 hb; replace HB := Aside0.mk (below_step (by repeat (with_reducible first | exact HB.out | apply pw_below_drewN | apply below_drew1 | refine below_set ?_ (Aside0.out (by assumption)))) hb); (try clear hb); (try clear hb2); (try clear hk); (try clear hi); have hnb240 := NB364_300.out; have hnc240 := NB300_364.out; have hnb241 := NB364_305.out; have hnc241 := NB305_364.out; have hnb242 := NB364_370.out; have hnc242 := NB370_364.out; have hcz243_0 : w239.cell? ⟨gb364, 0, none⟩ = some (.int .i64 t359) := (blk_cell BK364.out 0).trans rfl; have hcz243_1 : w239.cell? ⟨gb364, 1, none⟩ = some (.slice Ao133 t360.length co133) := (blk_cell BK364.out 1).trans rfl; have hfz243_0 := blk_frozen BK364.out 0; have hfz243_1 := blk_frozen BK364.out 1; have hnb244 := NB370_300.out; have hnc244 := NB300_370.out; have hnb245 := NB370_305.out; have hnc245 := NB305_370.out; have hcz246_0 : w239.cell? ⟨gb370, 0, none⟩ = some (.int .i64 t365) := (blk_cell BK370.out 0).trans rfl; have hcz246_1 : w239.cell? ⟨gb370, 1, none⟩ = some (.slice Ao149 t366.length co149) := (blk_cell BK370.out 1).trans rfl; have hfz246_0 := blk_frozen BK370.out 0; have hfz246_1 := blk_frozen BK370.out 1) | (go_at_call 20; (with_reducible refine (watchmanref21_Same.calls kj6 t359 _ _ t360 t365 _ _ t366 true _ ?side1 ?side2 ?side3 ?side4 A164.out).mono ?_); (case side1 => repeat (first | exact (Kd.R_reads' HO362.out).2.2 | (with_reducible refine Kd.C_alloc ?_ _) | (with_reducible refine Kd.C_drewN ?_ _) | (with_reducible refine Kd.C_drew ?_))); (case side2 => exact (Kd.R_reads' HO362.out).2.1); (case side3 => repeat (first | exact (Kd.R_reads' HO368.out).2.2 | (with_reducible refine Kd.C_alloc ?_ _) | (with_reducible refine Kd.C_drewN ?_ _) | (with_reducible refine Kd.C_drew ?_))); (case side4 => exact (Kd.R_reads' HO368.out).2.1); (try clear A164); rintro e w247 ⟨rfl, hb⟩; replace HO304 := rb_ HO304 hb; replace HO309 := rb_ HO309 hb; replace HO315 := rb_ HO315 hb; replace HO319 := rb_ HO319 hb; replace HO326 := rb_ HO326 hb; replace HO337 := rb_ HO337 hb; replace HO348 := rb_ HO348 hb; replace HO355 := rb_ HO355 hb; replace HO362 := rb_ HO362 hb; replace HO368 := rb_ HO368 hb; replace HO373 := rb_ HO373 hb; replace BK300 := bl_ BK300 hb; replace BK305 := bl_ BK305 hb; replace BK312 := bl_ BK312 hb; replace BK322 := bl_ BK322 hb; replace BK332 := bl_ BK332 hb; replace BK333 := bl_ BK333 hb; replace BK343 := bl_ BK343 hb; replace BK344 := bl_ BK344 hb; replace BK351 := bl_ BK351 hb; replace BK358 := bl_ BK358 hb; replace BK364 := bl_ BK364 hb; replace BK370 := bl_ BK370 hb; replace HB := Aside0.mk (below_step (by repeat (with_reducible first | exact HB.out | apply pw_below_drewN | apply below_drew1 | refine below_set ?_ (Aside0.out (by assumption)))) hb); (try clear hb); (try clear hb2); (try clear hk); (try clear hi); have hnb248 := NB305_300.out; have hnc248 := NB300_305.out; have hcz249_0 : w247.cell? ⟨gb305, 0, none⟩ = some (.int .i64 a0_0) := (blk_cell BK305.out 0).trans rfl; have hcz249_1 : w247.cell? ⟨gb305, 1, none⟩ = some (.slice Ao33 t302.length co33) := (blk_cell BK305.out 1).trans rfl; have hfz249_0 := blk_frozen BK305.out 0; have hfz249_1 := blk_frozen BK305.out 1) | (go_at_call 22; (with_reducible refine (watchmanref21_To.calls kj6 a0_0 _ _ t302 a2 t378 _ ?side1 ?side2 A167.out).mono ?_); (case side1 => repeat (first | exact (Kd.R_reads' HO304.out).2.2 | (with_reducible refine Kd.C_alloc ?_ _) | (with_reducible refine Kd.C_drewN ?_ _) | (with_reducible refine Kd.C_drew ?_))); (case side2 => exact (Kd.R_reads' HO304.out).2.1); rintro e w250 ⟨v379, rfl, ho0, hb⟩; replace HO315 := rb_ HO315 hb; have HO380 := Aside0.mk (Kd.R_lower (Kd.R_newB (Kd.R_newB (Kd.R_new' (Kd.R_new' (Kd.R_new' (Kd.R_new' (Kd.R_new' (Kd.R_new' (Kd.R_new' (Kd.R_new' (Kd.R_new' (Kd.R_new' ho0 (Kd.R_lt (HO304.out))) (Kd.R_lt (HO309.out))) (Kd.R_lt (HO319.out))) (Kd.R_lt (HO326.out))) (Kd.R_lt (HO337.out))) (Kd.R_lt (HO348.out))) (Kd.R_lt (HO355.out))) (Kd.R_lt (HO362.out))) (Kd.R_lt (HO368.out))) (Kd.R_lt (HO373.out))) (g := gb333) (o := .cells #[.int .i64 t327, .int .i64 t328, .int .i64 t329, .string t330] 35 (0, 0)) BK333.out) (g := gb344) (o := .cells #[.int .i64 t338, .int .i64 t339, .int .i64 t340, .string t341] 35 (0, 0)) BK344.out) (below_size (by repeat (with_reducible first | exact HB.out | apply pw_below_drewN | apply below_drew1 | refine below_set ?_ (Aside0.out (by assumption)))))); replace HO304 := Aside0.mk (Kd.R_elder' (HO304.out) (Kd.R_base ho0) hb); replace HO309 := Aside0.mk (Kd.R_elder' (HO309.out) (Kd.R_base ho0) hb); replace HO319 := Aside0.mk (Kd.R_elder' (HO319.out) (Kd.R_base ho0) hb); replace HO326 := Aside0.mk (Kd.R_elder' (HO326.out) (Kd.R_base ho0) hb); replace HO337 := Aside0.mk (Kd.R_elder' (HO337.out) (Kd.R_base ho0) hb); replace HO348 := Aside0.mk (Kd.R_elder' (HO348.out) (Kd.R_base ho0) hb); replace HO355 := Aside0.mk (Kd.R_elder' (HO355.out) (Kd.R_base ho0) hb); replace HO362 := Aside0.mk (Kd.R_elder' (HO362.out) (Kd.R_base ho0) hb); replace HO368 := Aside0.mk (Kd.R_elder' (HO368.out) (Kd.R_base ho0) hb); replace HO373 := Aside0.mk (Kd.R_elder' (HO373.out) (Kd.R_base ho0) hb); replace BK300 := bl_ BK300 hb; replace BK305 := bl_ BK305 hb; replace BK312 := bl_ BK312 hb; replace BK322 := bl_ BK322 hb; replace BK332 := bl_ BK332 hb; replace BK333 := bl_ BK333 hb; replace BK343 := bl_ BK343 hb; replace BK344 := bl_ BK344 hb; replace BK351 := bl_ BK351 hb; replace BK358 := bl_ BK358 hb; replace BK364 := bl_ BK364 hb; replace BK370 := bl_ BK370 hb; replace HB := Aside0.mk (below_step (by repeat (with_reducible first | exact HB.out | apply pw_below_drewN | apply below_drew1 | refine below_set ?_ (Aside0.out (by assumption)))) hb); (try clear hb); (try clear hb2); (try clear hk); (try clear hi); (try clear ho0); obtain ⟨Ao251, co251, eo251⟩ := Kd.R_slice HO373.out; subst eo251; obtain ⟨Ao252, co252, eo252⟩ := Kd.R_slice HO380.out; subst eo252) | (go_at_call 21; (with_reducible refine (watchmanref21_SameLetters.calls kj6 _ _ t371 _ _ t378 t381 _ ?side1 ?side2 ?side3 ?side4 A168.out).mono ?_); (case side1 => repeat (first | exact (Kd.R_reads' HO373.out).2.2 | (with_reducible refine Kd.C_alloc ?_ _) | (with_reducible refine Kd.C_drewN ?_ _) | (with_reducible refine Kd.C_drew ?_))); (case side2 => exact (Kd.R_reads' HO373.out).2.1); (case side3 => repeat (first | exact (Kd.R_reads' HO380.out).2.2 | (with_reducible refine Kd.C_alloc ?_ _) | (with_reducible refine Kd.C_drewN ?_ _) | (with_reducible refine Kd.C_drew ?_))); (case side4 => exact (Kd.R_reads' HO380.out).2.1); rintro e w' ⟨rfl, ⟨nd, rfl⟩⟩))
                                go_meet
                                case rel => exact ⟨_, (t381), (by first | rfl | (simp; done) | (simp [*]; done)), H', ⟨by have := HJ6.out; first | omega | exact Nat.le_refl _⟩, ⟨by (with_reducible repeat (first | apply Kd.R_alloc | apply Kd.R_drewN | apply Kd.R_drew)); exact Kd.R_mono HO373.out (fun _ hk => ⟨hk.1.1.1.1.1.1.1.1.1.1.1.2, ⟨hk.1.1.1.1.1.1.1.1.1.1.2, ⟨hk.1.1.1.1.1.1.1.1.1.2, ⟨hk.1.1.1.1.1.1.1.1.2, ⟨hk.1.1.1.1.1.1.1.2, ⟨hk.1.1.1.1.1.1.2, ⟨hk.1.1.1.1.1.2, ⟨hk.1.1.1.1.2, ⟨hk.1.1.1.2, ⟨hk.1.1.2, hk.1.2⟩⟩⟩⟩⟩⟩⟩⟩⟩⟩)⟩, ⟨by (with_reducible repeat (first | apply Kd.R_alloc | apply Kd.R_drewN | apply Kd.R_drew)); exact Kd.R_mono HO304.out (fun _ hk => ⟨hk.1.2, ⟨hk.1.1.1.1.1.1.1.1.1.1.1, ⟨hk.1.1.1.1.1.1.1.1.1.1.2, ⟨hk.1.1.1.1.1.1.1.1.1.2, ⟨hk.1.1.1.1.1.1.1.2, ⟨hk.1.1.1.1.1.2, ⟨hk.1.1.1.1.2, ⟨hk.1.1.1.2, ⟨hk.1.1.2, ⟨hk.1.1.1.1.1.1.1.1.2, hk.1.1.1.1.1.1.2⟩⟩⟩⟩⟩⟩⟩⟩⟩⟩)⟩, ⟨by (with_reducible repeat (first | apply Kd.R_alloc | apply Kd.R_drewN | apply Kd.R_drew)); exact Kd.R_mono HO309.out (fun _ hk => ⟨hk.1.2, ⟨hk.1.1.1.1.1.1.1.1.1.1.1, ⟨hk.1.1.1.1.1.1.1.1.1.1.2, ⟨hk.1.1.1.1.1.1.1.1.1.2, ⟨hk.1.1.1.1.1.1.1.2, ⟨hk.1.1.1.1.1.2, ⟨hk.1.1.1.1.2, ⟨hk.1.1.1.2, ⟨hk.1.1.2, ⟨hk.1.1.1.1.1.1.1.1.2, hk.1.1.1.1.1.1.2⟩⟩⟩⟩⟩⟩⟩⟩⟩⟩)⟩, ⟨by (with_reducible repeat (first | apply Kd.R_alloc | apply Kd.R_drewN | apply Kd.R_drew)); exact Kd.R_mono HO319.out (fun _ hk => ⟨hk.1.2, ⟨hk.1.1.1.1.1.1.1.1.1.1.1, ⟨hk.1.1.1.1.1.1.1.1.1.1.2, ⟨hk.1.1.1.1.1.1.1.1.1.2, ⟨hk.1.1.1.1.1.1.1.2, ⟨hk.1.1.1.1.1.2, ⟨hk.1.1.1.1.2, ⟨hk.1.1.1.2, ⟨hk.1.1.2, ⟨hk.1.1.1.1.1.1.1.1.2, hk.1.1.1.1.1.1.2⟩⟩⟩⟩⟩⟩⟩⟩⟩⟩)⟩, ⟨by (with_reducible repeat (first | apply Kd.R_alloc | apply Kd.R_drewN | apply Kd.R_drew)); exact Kd.R_mono HO326.out (fun _ hk => ⟨hk.1.2, ⟨hk.1.1.1.1.1.1.1.1.1.1.1.2, ⟨hk.1.1.1.1.1.1.1.1.1.1.2, ⟨hk.1.1.1.1.1.1.1.1.1.2, ⟨hk.1.1.1.1.1.1.1.2, ⟨hk.1.1.1.1.1.2, ⟨hk.1.1.1.1.2, ⟨hk.1.1.1.2, ⟨hk.1.1.2, ⟨hk.1.1.1.1.1.1.1.1.2, hk.1.1.1.1.1.1.2⟩⟩⟩⟩⟩⟩⟩⟩⟩⟩)⟩, ⟨by (with_reducible repeat (first | apply Kd.R_alloc | apply Kd.R_drewN | apply Kd.R_drew)); exact Kd.R_mono HO337.out (fun _ hk => ⟨hk.1.2, ⟨hk.1.1.1.1.1.1.1.1.1.1.1.2, ⟨hk.1.1.1.1.1.1.1.1.1.1.2, ⟨hk.1.1.1.1.1.1.1.1.1.2, ⟨hk.1.1.1.1.1.1.1.1.2, ⟨hk.1.1.1.1.1.2, ⟨hk.1.1.1.1.2, ⟨hk.1.1.1.2, ⟨hk.1.1.2, ⟨hk.1.1.1.1.1.1.1.2, hk.1.1.1.1.1.1.2⟩⟩⟩⟩⟩⟩⟩⟩⟩⟩)⟩, ⟨by (with_reducible repeat (first | apply Kd.R_alloc | apply Kd.R_drewN | apply Kd.R_drew)); exact Kd.R_mono HO348.out (fun _ hk => ⟨hk.1.2, ⟨hk.1.1.1.1.1.1.1.1.1.1.1.2, ⟨hk.1.1.1.1.1.1.1.1.1.1.2, ⟨hk.1.1.1.1.1.1.1.1.1.2, ⟨hk.1.1.1.1.1.1.1.1.2, ⟨hk.1.1.1.1.1.1.1.2, ⟨hk.1.1.1.1.2, ⟨hk.1.1.1.2, ⟨hk.1.1.2, ⟨hk.1.1.1.1.1.1.2, hk.1.1.1.1.1.2⟩⟩⟩⟩⟩⟩⟩⟩⟩⟩)⟩, ⟨by (with_reducible repeat (first | apply Kd.R_alloc | apply Kd.R_drewN | apply Kd.R_drew)); exact Kd.R_mono HO355.out (fun _ hk => ⟨hk.1.2, ⟨hk.1.1.1.1.1.1.1.1.1.1.1.2, ⟨hk.1.1.1.1.1.1.1.1.1.1.2, ⟨hk.1.1.1.1.1.1.1.1.1.2, ⟨hk.1.1.1.1.1.1.1.1.2, ⟨hk.1.1.1.1.1.1.1.2, ⟨hk.1.1.1.1.1.1.2, ⟨hk.1.1.1.2, ⟨hk.1.1.2, ⟨hk.1.1.1.1.1.2, hk.1.1.1.1.2⟩⟩⟩⟩⟩⟩⟩⟩⟩⟩)⟩, ⟨by (with_reducible repeat (first | apply Kd.R_alloc | apply Kd.R_drewN | apply Kd.R_drew)); exact Kd.R_mono HO362.out (fun _ hk => ⟨hk.1.2, ⟨hk.1.1.1.1.1.1.1.1.1.1.1.2, ⟨hk.1.1.1.1.1.1.1.1.1.1.2, ⟨hk.1.1.1.1.1.1.1.1.1.2, ⟨hk.1.1.1.1.1.1.1.1.2, ⟨hk.1.1.1.1.1.1.1.2, ⟨hk.1.1.1.1.1.1.2, ⟨hk.1.1.1.1.1.2, ⟨hk.1.1.2, ⟨hk.1.1.1.1.2, hk.1.1.1.2⟩⟩⟩⟩⟩⟩⟩⟩⟩⟩)⟩, ⟨by (with_reducible repeat (first | apply Kd.R_alloc | apply Kd.R_drewN | apply Kd.R_drew)); exact Kd.R_mono HO368.out (fun _ hk => ⟨hk.1.2, ⟨hk.1.1.1.1.1.1.1.1.1.1.1.2, ⟨hk.1.1.1.1.1.1.1.1.1.1.2, ⟨hk.1.1.1.1.1.1.1.1.1.2, ⟨hk.1.1.1.1.1.1.1.1.2, ⟨hk.1.1.1.1.1.1.1.2, ⟨hk.1.1.1.1.1.1.2, ⟨hk.1.1.1.1.1.2, ⟨hk.1.1.1.1.2, ⟨hk.1.1.1.2, hk.1.1.2⟩⟩⟩⟩⟩⟩⟩⟩⟩⟩)⟩, ⟨by (with_reducible repeat (first | refine blk_drewN ?_ _ | refine blk_drew ?_ | refine blk_alloc ?_ _)); exact BK300.out⟩, ⟨by (with_reducible repeat (first | refine blk_drewN ?_ _ | refine blk_drew ?_ | refine blk_alloc ?_ _)); exact BK305.out⟩, ⟨by (with_reducible repeat (first | refine blk_drewN ?_ _ | refine blk_drew ?_ | refine blk_alloc ?_ _)); exact BK312.out⟩, ⟨by (with_reducible repeat (first | refine blk_drewN ?_ _ | refine blk_drew ?_ | refine blk_alloc ?_ _)); exact BK322.out⟩, ⟨by (with_reducible repeat (first | refine blk_drewN ?_ _ | refine blk_drew ?_ | refine blk_alloc ?_ _)); exact BK332.out⟩, ⟨by (with_reducible repeat (first | refine blk_drewN ?_ _ | refine blk_drew ?_ | refine blk_alloc ?_ _)); exact BK333.out⟩, ⟨by (with_reducible repeat (first | refine blk_drewN ?_ _ | refine blk_drew ?_ | refine blk_alloc ?_ _)); exact BK343.out⟩, ⟨by (with_reducible repeat (first | refine blk_drewN ?_ _ | refine blk_drew ?_ | refine blk_alloc ?_ _)); exact BK344.out⟩, ⟨by (with_reducible repeat (first | refine blk_drewN ?_ _ | refine blk_drew ?_ | refine blk_alloc ?_ _)); exact BK351.out⟩, ⟨by (with_reducible repeat (first | refine blk_drewN ?_ _ | refine blk_drew ?_ | refine blk_alloc ?_ _)); exact BK358.out⟩, ⟨by (with_reducible repeat (first | refine blk_drewN ?_ _ | refine blk_drew ?_ | refine blk_alloc ?_ _)); exact BK364.out⟩, ⟨by (with_reducible repeat (first | refine blk_drewN ?_ _ | refine blk_drew ?_ | refine blk_alloc ?_ _)); exact BK370.out⟩, ⟨by repeat (with_reducible first | exact HB.out | apply pw_below_drewN | apply below_drew1 | refine below_set ?_ (Aside0.out (by assumption)))⟩⟩
                                all_goals contradiction
                              · rw [if_neg c166] at H
                                exact absurd H (by simp)
                            · replace c165 := Bool.eq_false_iff.mpr c165
                              subst c165
                              have H1 : (none) = some r := by rw [if_neg (show ¬ (false = true) by decide)] at H; exact H
                              clear H
                              have H := H1
                              clear H1
                              exact absurd H (by simp)
                          · rw [if_neg c163] at H
                            exact absurd H (by simp)
                        · rw [if_neg c162] at H
                          exact absurd H (by simp)
                      · replace c161 := Bool.eq_false_iff.mpr c161
                        subst c161
                        have H1 : (none) = some r := by rw [if_neg (show ¬ (false = true) by decide)] at H; exact H
                        clear H
                        have H := H1
                        clear H1
                        exact absurd H (by simp)
                    · rw [if_neg c159] at H
                      exact absurd H (by simp)
                  · rw [if_neg c158] at H
                    exact absurd H (by simp)
                · replace c157 := Bool.eq_false_iff.mpr c157
                  subst c157
                  have H1 : (none) = some r := by rw [if_neg (show ¬ (false = true) by decide)] at H; exact H
                  clear H
                  have H := H1
                  clear H1
                  exact absurd H (by simp)
              · rw [if_neg c155] at H
                exact absurd H (by simp)
            · rw [if_neg c154] at H
              exact absurd H (by simp)
          · replace c153 := Bool.eq_false_iff.mpr c153
            subst c153
            have H1 : (none) = some r := by rw [if_neg (show ¬ (false = true) by decide)] at H; exact H
            clear H
            have H := H1
            clear H1
            exact absurd H (by simp)
        case rest =>
          clear HC27
          try clear c1
          try clear c2
          try clear p2
          try clear c4
          try clear c5
          try clear c6
          try clear c7
          try clear c8
          try clear c9
          try clear c10
          try clear c11
          try clear c12
          try clear c13
          try clear c14
          try clear c15
          try clear c16
          try clear c17
          try clear c18
          try clear c19
          try clear c20
          try clear c21
          try clear c22
          try clear c23
          try clear c24
          try clear c54
          try clear c59
          try clear c60
          try clear c61
          try clear c62
          try clear c63
          try clear c66
          try clear c67
          try clear c68
          try clear c69
          try clear c71
          try clear c76
          try clear c77
          try clear c78
          try clear c79
          try clear c80
          try clear c81
          try clear c82
          try clear c85
          try clear c86
          try clear c87
          try clear c88
          try clear c89
          try clear c90
          try clear c95
          try clear c96
          try clear c97
          try clear c98
          try clear c99
          try clear c100
          try clear c101
          try clear c102
          try clear c108
          try clear c109
          try clear c110
          try clear c111
          try clear c112
          try clear c113
          try clear c114
          try clear c115
          try clear c116
          try clear c122
          try clear c123
          try clear c124
          try clear c125
          try clear c126
          try clear c127
          try clear c128
          try clear c129
          try clear c130
          try clear c131
          try clear c137
          try clear c138
          try clear c139
          try clear c140
          try clear c141
          try clear c142
          try clear c143
          try clear c144
          try clear c145
          try clear c146
          try clear c147
          try clear c153
          try clear c154
          try clear c154b0
          try clear c154b1
          try clear c155
          try clear c155b0
          try clear c155b1
          try clear c157
          try clear c158
          try clear c158b0
          try clear c158b1
          try clear c158b2
          try clear c159
          try clear c159b0
          try clear c159b1
          try clear c161
          try clear c162
          try clear c162b0
          try clear c162b1
          try clear c163
          try clear c163b0
          try clear c163b1
          try clear c165
          try clear c166
          try clear c166b0
          try clear c166b1
          try clear c169
          try clear c170
          try clear c171
          try clear c172
          try clear c173
          try clear c174
          try clear c175
          try clear c176
          try clear c177
          try clear c178
          try clear c179
          try clear c181
          try clear c182
          try clear c183
          try clear c184
          try clear c185
          try clear c186
          try clear c187
          try clear c188
          try clear c189
          try clear c190
          try clear c193
          try clear c194
          try clear c195
          try clear c196
          try clear c197
          try clear c198
          try clear c199
          try clear c200
          try clear c201
          try clear c203
          try clear c204
          try clear c205
          try clear c206
          try clear c207
          try clear c208
          try clear c209
          try clear c210
          try clear c213
          try clear c214
          try clear c215
          try clear c216
          try clear c217
          try clear c218
          try clear c219
          try clear c221
          try clear c222
          try clear c223
          try clear c224
          try clear c225
          try clear c226
          try clear c228
          try clear c229
          try clear c230
          try clear c231
          try clear c232
          try clear c234
          try clear c235
          try clear c236
          try clear c237
          try clear c240
          try clear c241
          try clear c242
          try clear c244
          try clear c245
          try clear c248
          try clear hcz103_0
          try clear hcz103_1
          try clear hcz105_0
          try clear hcz105_1
          try clear hcz117_0
          try clear hcz117_1
          try clear hcz119_0
          try clear hcz119_1
          try clear hcz132_0
          try clear hcz132_1
          try clear hcz134_0
          try clear hcz134_1
          try clear hcz148_0
          try clear hcz148_1
          try clear hcz150_0
          try clear hcz150_1
          try clear hcz180_0
          try clear hcz180_1
          try clear hcz191_0
          try clear hcz191_1
          try clear hcz202_0
          try clear hcz202_1
          try clear hcz211_0
          try clear hcz211_1
          try clear hcz220_0
          try clear hcz220_1
          try clear hcz220_2
          try clear hcz220_3
          try clear hcz227_0
          try clear hcz227_1
          try clear hcz227_2
          try clear hcz227_3
          try clear hcz233_0
          try clear hcz233_1
          try clear hcz238_0
          try clear hcz238_1
          try clear hcz243_0
          try clear hcz243_1
          try clear hcz246_0
          try clear hcz246_1
          try clear hcz249_0
          try clear hcz249_1
          try clear hcz55_0
          try clear hcz55_1
          try clear hcz64_0
          try clear hcz64_1
          try clear hcz70_0
          try clear hcz70_1
          try clear hcz70_2
          try clear hcz70_3
          try clear hcz72_0
          try clear hcz72_1
          try clear hcz83_0
          try clear hcz83_1
          try clear hcz91_0
          try clear hcz91_1
          try clear hcz91_2
          try clear hcz91_3
          try clear hcz92_0
          try clear hcz92_1
          try clear hfz103_0
          try clear hfz103_1
          try clear hfz105_0
          try clear hfz105_1
          try clear hfz117_0
          try clear hfz117_1
          try clear hfz119_0
          try clear hfz119_1
          try clear hfz132_0
          try clear hfz132_1
          try clear hfz134_0
          try clear hfz134_1
          try clear hfz148_0
          try clear hfz148_1
          try clear hfz150_0
          try clear hfz150_1
          try clear hfz180_0
          try clear hfz180_1
          try clear hfz191_0
          try clear hfz191_1
          try clear hfz202_0
          try clear hfz202_1
          try clear hfz211_0
          try clear hfz211_1
          try clear hfz220_0
          try clear hfz220_1
          try clear hfz220_2
          try clear hfz220_3
          try clear hfz227_0
          try clear hfz227_1
          try clear hfz227_2
          try clear hfz227_3
          try clear hfz233_0
          try clear hfz233_1
          try clear hfz238_0
          try clear hfz238_1
          try clear hfz243_0
          try clear hfz243_1
          try clear hfz246_0
          try clear hfz246_1
          try clear hfz249_0
          try clear hfz249_1
          try clear hfz55_0
          try clear hfz55_1
          try clear hfz64_0
          try clear hfz64_1
          try clear hfz70_0
          try clear hfz70_1
          try clear hfz70_2
          try clear hfz70_3
          try clear hfz72_0
          try clear hfz72_1
          try clear hfz83_0
          try clear hfz83_1
          try clear hfz91_0
          try clear hfz91_1
          try clear hfz91_2
          try clear hfz91_3
          try clear hfz92_0
          try clear hfz92_1
          obtain ⟨kq, x37_26, rfl, HA, HJ26, HO_36, HO_306001, HO_313001, HO_323001, HO_333001, HO_344001, HO_352001, HO_359001, HO_365001, HO_371001, BK300, BK305, BK312, BK322, BK332, BK333, BK343, BK344, BK351, BK358, BK364, BK370, HB⟩ := hcut
          cases kq with
          | zero => exact absurd HA.out (by simp [watchmanlaw21_PostDoes.j1])
          | succ kj26 =>
            have H := HA.out
            clear HA
            simp only [watchmanlaw21_PostDoes.j1] at H
            replace H := Option.bind_eq_some_iff.mp H
            obtain ⟨t382, A2530, H⟩ := H
            replace H : ((watchmanlaw21_smudge.f kj26 t324).bind fun t383 => ((watchmanlaw21_smudge.f kj26 t346).bind fun t384 => ((watchmanlaw21_smudge.f kj26 t360).bind fun t385 => ((watchmanlaw21_smudge.f kj26 t371).bind fun t386 => ((watchmanlaw21_posted.f kj26).bind fun t387 => (if t387 = true then (if x37_26 = true then ((post_Is.f kj26 a0_0 l0_1).bind fun t388 => ((watchmanref21_Is.f kj26 a0_0 t302).bind fun t389 => (if (t388 == t389) = true then ((watchmanref21_Same.f kj26 a0_0 l0_1 a0_0 t302).bind fun t390 => (some t390)) else (none)))) else (none)) else (none))))))) = some r := H
            have A253 := Aside0.mk A2530
            clear A2530
            replace H := Option.bind_eq_some_iff.mp H
            obtain ⟨t383, A2540, H⟩ := H
            replace H : ((watchmanlaw21_smudge.f kj26 t346).bind fun t384 => ((watchmanlaw21_smudge.f kj26 t360).bind fun t385 => ((watchmanlaw21_smudge.f kj26 t371).bind fun t386 => ((watchmanlaw21_posted.f kj26).bind fun t387 => (if t387 = true then (if x37_26 = true then ((post_Is.f kj26 a0_0 l0_1).bind fun t388 => ((watchmanref21_Is.f kj26 a0_0 t302).bind fun t389 => (if (t388 == t389) = true then ((watchmanref21_Same.f kj26 a0_0 l0_1 a0_0 t302).bind fun t390 => (some t390)) else (none)))) else (none)) else (none)))))) = some r := H
            have A254 := Aside0.mk A2540
            clear A2540
            replace H := Option.bind_eq_some_iff.mp H
            obtain ⟨t384, A2550, H⟩ := H
            replace H : ((watchmanlaw21_smudge.f kj26 t360).bind fun t385 => ((watchmanlaw21_smudge.f kj26 t371).bind fun t386 => ((watchmanlaw21_posted.f kj26).bind fun t387 => (if t387 = true then (if x37_26 = true then ((post_Is.f kj26 a0_0 l0_1).bind fun t388 => ((watchmanref21_Is.f kj26 a0_0 t302).bind fun t389 => (if (t388 == t389) = true then ((watchmanref21_Same.f kj26 a0_0 l0_1 a0_0 t302).bind fun t390 => (some t390)) else (none)))) else (none)) else (none))))) = some r := H
            have A255 := Aside0.mk A2550
            clear A2550
            replace H := Option.bind_eq_some_iff.mp H
            obtain ⟨t385, A2560, H⟩ := H
            replace H : ((watchmanlaw21_smudge.f kj26 t371).bind fun t386 => ((watchmanlaw21_posted.f kj26).bind fun t387 => (if t387 = true then (if x37_26 = true then ((post_Is.f kj26 a0_0 l0_1).bind fun t388 => ((watchmanref21_Is.f kj26 a0_0 t302).bind fun t389 => (if (t388 == t389) = true then ((watchmanref21_Same.f kj26 a0_0 l0_1 a0_0 t302).bind fun t390 => (some t390)) else (none)))) else (none)) else (none)))) = some r := H
            have A256 := Aside0.mk A2560
            clear A2560
            replace H := Option.bind_eq_some_iff.mp H
            obtain ⟨t386, A2570, H⟩ := H
            replace H : ((watchmanlaw21_posted.f kj26).bind fun t387 => (if t387 = true then (if x37_26 = true then ((post_Is.f kj26 a0_0 l0_1).bind fun t388 => ((watchmanref21_Is.f kj26 a0_0 t302).bind fun t389 => (if (t388 == t389) = true then ((watchmanref21_Same.f kj26 a0_0 l0_1 a0_0 t302).bind fun t390 => (some t390)) else (none)))) else (none)) else (none))) = some r := H
            have A257 := Aside0.mk A2570
            clear A2570
            replace H := Option.bind_eq_some_iff.mp H
            obtain ⟨t387, A2580, H⟩ := H
            replace H : (if t387 = true then (if x37_26 = true then ((post_Is.f kj26 a0_0 l0_1).bind fun t388 => ((watchmanref21_Is.f kj26 a0_0 t302).bind fun t389 => (if (t388 == t389) = true then ((watchmanref21_Same.f kj26 a0_0 l0_1 a0_0 t302).bind fun t390 => (some t390)) else (none)))) else (none)) else (none)) = some r := H
            have A258 := Aside0.mk A2580
            clear A2580
            by_cases c259 : t387 = true
            · subst c259
              have H1 : (if x37_26 = true then ((post_Is.f kj26 a0_0 l0_1).bind fun t388 => ((watchmanref21_Is.f kj26 a0_0 t302).bind fun t389 => (if (t388 == t389) = true then ((watchmanref21_Same.f kj26 a0_0 l0_1 a0_0 t302).bind fun t390 => (some t390)) else (none)))) else (none)) = some r := by rw [if_pos rfl] at H; exact H
              clear H
              have H := H1
              clear H1
              by_cases c260 : x37_26 = true
              · subst c260
                have H1 : ((post_Is.f kj26 a0_0 l0_1).bind fun t388 => ((watchmanref21_Is.f kj26 a0_0 t302).bind fun t389 => (if (t388 == t389) = true then ((watchmanref21_Same.f kj26 a0_0 l0_1 a0_0 t302).bind fun t390 => (some t390)) else (none)))) = some r := by rw [if_pos rfl] at H; exact H
                clear H
                have H := H1
                clear H1
                replace H := Option.bind_eq_some_iff.mp H
                obtain ⟨t388, A2610, H⟩ := H
                replace H : ((watchmanref21_Is.f kj26 a0_0 t302).bind fun t389 => (if (t388 == t389) = true then ((watchmanref21_Same.f kj26 a0_0 l0_1 a0_0 t302).bind fun t390 => (some t390)) else (none))) = some r := H
                have A261 := Aside0.mk A2610
                clear A2610
                replace H := Option.bind_eq_some_iff.mp H
                obtain ⟨t389, A2620, H⟩ := H
                replace H : (if (t388 == t389) = true then ((watchmanref21_Same.f kj26 a0_0 l0_1 a0_0 t302).bind fun t390 => (some t390)) else (none)) = some r := H
                have A262 := Aside0.mk A2620
                clear A2620
                by_cases c263 : (t388 == t389) = true
                · rw [if_pos c263] at H
                  have c263b0 : (t388 == t389) = true := c263
                  (try (have c263b1 : decide (t388 = t389) = true := by simpa using c263))
                  (try (have c263b2 : (t388 == t389) = true := by simpa using c263))
                  clear c263
                  replace H := Option.bind_eq_some_iff.mp H
                  obtain ⟨t390, A2640, H⟩ := H
                  replace H : (some t390) = some r := H
                  have A264 := Aside0.mk A2640
                  clear A2640
                  obtain rfl := Option.some.inj H
                  have hcz276_0 : wc.cell? ⟨gb312, 0, none⟩ = some (.int .i64 t306) := (blk_cell BK312.out 0).trans rfl
                  have hcz276_1 : wc.cell? ⟨gb312, 1, none⟩ = some (.slice Ao43 t307.length co43) := (blk_cell BK312.out 1).trans rfl
                  try go_wp2_with (first | ((with_reducible refine gate_callee (f := 23) rfl ?_); refine goesL_ (some 176) rfl rfl Try.func23 (by kernel_rfl) rfl #[.slice Ao43 t307.length co43] rfl (by (try simp only [List.map_toArray, List.map_cons, List.map_nil]); first | done | rfl | (simp only [List.length_drop, List.length_take]; rfl)) ?_; (with_reducible refine (watchmanlaw21_smudge.calls kj26 (fun k_ => some k_ = (.slice Ao43 t307.length co43 : Value).ownBlock) (.slice Ao43 t307.length co43) t307 t382 w _ ?side1 ?side2 A253.out).mono ?_); (case side1 => repeat (first | (with_reducible first | exact HB.out | apply below_alloc | apply pw_below_drewN | apply below_drew1 | refine below_set ?_ GE300.out | refine below_set ?_ GE305.out | refine below_set ?_ GE312.out | refine below_set ?_ GE322.out | refine below_set ?_ GE332.out | refine below_set ?_ GE333.out | refine below_set ?_ GE343.out | refine below_set ?_ GE344.out | refine below_set ?_ GE351.out | refine below_set ?_ GE358.out | refine below_set ?_ GE364.out | refine below_set ?_ GE370.out) | exact HB.out)); (case side2 => exact Kd.R_tight rfl HO_313001.out); (try clear A253); rintro e w277 ⟨rfl, hy0, hb, hkp⟩; refine ⟨_, rfl, ?_⟩; replace HO_36 := Aside0.mk (Kd.R_mono (Kd.R_keptB (HO_36.out) hkp (fun k_ hk_ hs_ => (hk_.2.1) hs_)) (fun _ h_ => h_.1)); replace HO_306001 := Aside0.mk (Kd.R_mono (Kd.R_keptB (HO_306001.out) hkp (fun k_ hk_ hs_ => (hk_.2.1) hs_)) (fun _ h_ => h_.1)); replace HO_323001 := Aside0.mk (Kd.R_mono (Kd.R_keptB (HO_323001.out) hkp (fun k_ hk_ hs_ => (hk_.2.2.1) hs_)) (fun _ h_ => h_.1)); replace HO_333001 := Aside0.mk (Kd.R_mono (Kd.R_keptB (HO_333001.out) hkp (fun k_ hk_ hs_ => (hk_.2.2.1) hs_)) (fun _ h_ => h_.1)); replace HO_344001 := Aside0.mk (Kd.R_mono (Kd.R_keptB (HO_344001.out) hkp (fun k_ hk_ hs_ => (hk_.2.2.1) hs_)) (fun _ h_ => h_.1)); replace HO_352001 := Aside0.mk (Kd.R_mono (Kd.R_keptB (HO_352001.out) hkp (fun k_ hk_ hs_ => (hk_.2.2.1) hs_)) (fun _ h_ => h_.1)); replace HO_359001 := Aside0.mk (Kd.R_mono (Kd.R_keptB (HO_359001.out) hkp (fun k_ hk_ hs_ => (hk_.2.2.1) hs_)) (fun _ h_ => h_.1)); replace HO_365001 := Aside0.mk (Kd.R_mono (Kd.R_keptB (HO_365001.out) hkp (fun k_ hk_ hs_ => (hk_.2.2.1) hs_)) (fun _ h_ => h_.1)); replace HO_371001 := Aside0.mk (Kd.R_mono (Kd.R_keptB (HO_371001.out) hkp (fun k_ hk_ hs_ => (hk_.2.2.1) hs_)) (fun _ h_ => h_.1)); replace BK300 := Aside0.mk (blk_kept BK300.out hkp (fun hs_ => (fun e_ => (Kd.R_ne HO_313001.out BK300.out (by decide)) e_) hs_)); replace BK305 := Aside0.mk (blk_kept BK305.out hkp (fun hs_ => (fun e_ => (Kd.R_ne HO_313001.out BK305.out (by decide)) e_) hs_)); replace BK312 := Aside0.mk (blk_kept BK312.out hkp (fun hs_ => (fun e_ => (Kd.R_ne HO_313001.out BK312.out (by decide)) e_) hs_)); replace BK322 := Aside0.mk (blk_kept BK322.out hkp (fun hs_ => (fun e_ => (Kd.R_ne HO_313001.out BK322.out (by decide)) e_) hs_)); replace BK332 := Aside0.mk (blk_kept BK332.out hkp (fun hs_ => (fun e_ => (Kd.R_ne HO_313001.out BK332.out (by decide)) e_) hs_)); replace BK333 := Aside0.mk (blk_kept BK333.out hkp (fun hs_ => (fun e_ => (Kd.R_away HO_313001.out (fun _ hk => hk.2.2.2.2.2.2.2.2.2.1)) e_) hs_)); replace BK343 := Aside0.mk (blk_kept BK343.out hkp (fun hs_ => (fun e_ => (Kd.R_ne HO_313001.out BK343.out (by decide)) e_) hs_)); replace BK344 := Aside0.mk (blk_kept BK344.out hkp (fun hs_ => (fun e_ => (Kd.R_away HO_313001.out (fun _ hk => hk.2.2.2.2.2.2.2.2.2.2)) e_) hs_)); replace BK351 := Aside0.mk (blk_kept BK351.out hkp (fun hs_ => (fun e_ => (Kd.R_ne HO_313001.out BK351.out (by decide)) e_) hs_)); replace BK358 := Aside0.mk (blk_kept BK358.out hkp (fun hs_ => (fun e_ => (Kd.R_ne HO_313001.out BK358.out (by decide)) e_) hs_)); replace BK364 := Aside0.mk (blk_kept BK364.out hkp (fun hs_ => (fun e_ => (Kd.R_ne HO_313001.out BK364.out (by decide)) e_) hs_)); replace BK370 := Aside0.mk (blk_kept BK370.out hkp (fun hs_ => (fun e_ => (Kd.R_ne HO_313001.out BK370.out (by decide)) e_) hs_)); replace HO_313001 := Aside0.mk (Kd.R_reok rfl hy0 (fun k_ e_ => HO_313001.out.1 k_ e_)); replace HB := Aside0.mk (hb); (try clear hb); (try clear hkp); (try clear hy0); have hnb278 := NB332_300.out; have hnc278 := NB300_332.out; have hnb279 := NB332_305.out; have hnc279 := NB305_332.out; have hnb280 := NB332_322.out; have hnc280 := NB322_332.out; have hnb281 := NB332_333.out; have hnc281 := NB333_332.out; have hnb282 := NB332_343.out; have hnc282 := NB343_332.out; have hnb283 := NB332_344.out; have hnc283 := NB344_332.out; have hnb284 := NB332_351.out; have hnc284 := NB351_332.out; have hnb285 := NB332_358.out; have hnc285 := NB358_332.out; have hnb286 := NB332_364.out; have hnc286 := NB364_332.out; have hnb287 := NB332_370.out; have hnc287 := NB370_332.out; have hcz288_0 : w277.cell? ⟨gb332, 0, none⟩ = some (.int .i64 t323) := (blk_cell BK332.out 0).trans rfl; have hcz288_1 : w277.cell? ⟨gb332, 1, none⟩ = some (.slice Ao65 t324.length co65) := (blk_cell BK332.out 1).trans rfl; have hfz288_0 := blk_frozen BK332.out 0; have hfz288_1 := blk_frozen BK332.out 1) | ((with_reducible refine gate_callee (f := 23) rfl ?_); refine goesL_ (some 179) rfl rfl Try.func23 (by kernel_rfl) rfl #[.slice Ao65 t324.length co65] rfl (by (try simp only [List.map_toArray, List.map_cons, List.map_nil]); first | done | rfl | (simp only [List.length_drop, List.length_take]; rfl)) ?_; (with_reducible refine (watchmanlaw21_smudge.calls kj26 (fun k_ => some k_ = (.slice Ao65 t324.length co65 : Value).ownBlock) (.slice Ao65 t324.length co65) t324 t383 w _ ?side1 ?side2 A254.out).mono ?_); (case side1 => repeat (first | (with_reducible first | exact HB.out | apply below_alloc | apply pw_below_drewN | apply below_drew1 | refine below_set ?_ GE300.out | refine below_set ?_ GE305.out | refine below_set ?_ GE312.out | refine below_set ?_ GE322.out | refine below_set ?_ GE332.out | refine below_set ?_ GE333.out | refine below_set ?_ GE343.out | refine below_set ?_ GE344.out | refine below_set ?_ GE351.out | refine below_set ?_ GE358.out | refine below_set ?_ GE364.out | refine below_set ?_ GE370.out) | exact HB.out)); (case side2 => exact Kd.R_tight rfl HO_333001.out); (try clear A254); rintro e w289 ⟨rfl, hy0, hb, hkp⟩; refine ⟨_, rfl, ?_⟩; replace HO_36 := Aside0.mk (Kd.R_mono (Kd.R_keptB (HO_36.out) hkp (fun k_ hk_ hs_ => (hk_.2.2.2.1) hs_)) (fun _ h_ => h_.1)); replace HO_306001 := Aside0.mk (Kd.R_mono (Kd.R_keptB (HO_306001.out) hkp (fun k_ hk_ hs_ => (hk_.2.2.2.1) hs_)) (fun _ h_ => h_.1)); replace HO_313001 := Aside0.mk (Kd.R_mono (Kd.R_keptB (HO_313001.out) hkp (fun k_ hk_ hs_ => (hk_.2.2.2.1) hs_)) (fun _ h_ => h_.1)); replace HO_323001 := Aside0.mk (Kd.R_mono (Kd.R_keptB (HO_323001.out) hkp (fun k_ hk_ hs_ => (hk_.2.2.2.1) hs_)) (fun _ h_ => h_.1)); replace HO_344001 := Aside0.mk (Kd.R_mono (Kd.R_keptB (HO_344001.out) hkp (fun k_ hk_ hs_ => (hk_.2.2.2.2.1) hs_)) (fun _ h_ => h_.1)); replace HO_352001 := Aside0.mk (Kd.R_mono (Kd.R_keptB (HO_352001.out) hkp (fun k_ hk_ hs_ => (hk_.2.2.2.2.1) hs_)) (fun _ h_ => h_.1)); replace HO_359001 := Aside0.mk (Kd.R_mono (Kd.R_keptB (HO_359001.out) hkp (fun k_ hk_ hs_ => (hk_.2.2.2.2.1) hs_)) (fun _ h_ => h_.1)); replace HO_365001 := Aside0.mk (Kd.R_mono (Kd.R_keptB (HO_365001.out) hkp (fun k_ hk_ hs_ => (hk_.2.2.2.2.1) hs_)) (fun _ h_ => h_.1)); replace HO_371001 := Aside0.mk (Kd.R_mono (Kd.R_keptB (HO_371001.out) hkp (fun k_ hk_ hs_ => (hk_.2.2.2.2.1) hs_)) (fun _ h_ => h_.1)); replace BK300 := Aside0.mk (blk_kept BK300.out hkp (fun hs_ => (fun e_ => (Kd.R_ne HO_333001.out BK300.out (by decide)) e_) hs_)); replace BK305 := Aside0.mk (blk_kept BK305.out hkp (fun hs_ => (fun e_ => (Kd.R_ne HO_333001.out BK305.out (by decide)) e_) hs_)); replace BK312 := Aside0.mk (blk_kept BK312.out hkp (fun hs_ => (fun e_ => (Kd.R_ne HO_333001.out BK312.out (by decide)) e_) hs_)); replace BK322 := Aside0.mk (blk_kept BK322.out hkp (fun hs_ => (fun e_ => (Kd.R_ne HO_333001.out BK322.out (by decide)) e_) hs_)); replace BK332 := Aside0.mk (blk_kept BK332.out hkp (fun hs_ => (fun e_ => (Kd.R_ne HO_333001.out BK332.out (by decide)) e_) hs_)); replace BK333 := Aside0.mk (blk_kept BK333.out hkp (fun hs_ => (fun e_ => (Kd.R_away HO_333001.out (fun _ hk => hk.2.2.2.2.2.2.2.2.2.1)) e_) hs_)); replace BK343 := Aside0.mk (blk_kept BK343.out hkp (fun hs_ => (fun e_ => (Kd.R_ne HO_333001.out BK343.out (by decide)) e_) hs_)); replace BK344 := Aside0.mk (blk_kept BK344.out hkp (fun hs_ => (fun e_ => (Kd.R_away HO_333001.out (fun _ hk => hk.2.2.2.2.2.2.2.2.2.2)) e_) hs_)); replace BK351 := Aside0.mk (blk_kept BK351.out hkp (fun hs_ => (fun e_ => (Kd.R_ne HO_333001.out BK351.out (by decide)) e_) hs_)); replace BK358 := Aside0.mk (blk_kept BK358.out hkp (fun hs_ => (fun e_ => (Kd.R_ne HO_333001.out BK358.out (by decide)) e_) hs_)); replace BK364 := Aside0.mk (blk_kept BK364.out hkp (fun hs_ => (fun e_ => (Kd.R_ne HO_333001.out BK364.out (by decide)) e_) hs_)); replace BK370 := Aside0.mk (blk_kept BK370.out hkp (fun hs_ => (fun e_ => (Kd.R_ne HO_333001.out BK370.out (by decide)) e_) hs_)); replace HO_333001 := Aside0.mk (Kd.R_reok rfl hy0 (fun k_ e_ => HO_333001.out.1 k_ e_)); replace HB := Aside0.mk (hb); (try clear hb); (try clear hkp); (try clear hy0); have hnb290 := NB351_300.out; have hnc290 := NB300_351.out; have hnb291 := NB351_305.out; have hnc291 := NB305_351.out; have hnb292 := NB351_322.out; have hnc292 := NB322_351.out; have hnb293 := NB351_333.out; have hnc293 := NB333_351.out; have hnb294 := NB351_343.out; have hnc294 := NB343_351.out; have hnb295 := NB351_344.out; have hnc295 := NB344_351.out; have hnb296 := NB351_358.out; have hnc296 := NB358_351.out; have hnb297 := NB351_364.out; have hnc297 := NB364_351.out; have hnb298 := NB351_370.out; have hnc298 := NB370_351.out; have hcz299_0 : w289.cell? ⟨gb351, 0, none⟩ = some (.int .i64 t345) := (blk_cell BK351.out 0).trans rfl; have hcz299_1 : w289.cell? ⟨gb351, 1, none⟩ = some (.slice Ao104 t346.length co104) := (blk_cell BK351.out 1).trans rfl; have hfz299_0 := blk_frozen BK351.out 0; have hfz299_1 := blk_frozen BK351.out 1) | ((with_reducible refine gate_callee (f := 23) rfl ?_); refine goesL_ (some 182) rfl rfl Try.func23 (by kernel_rfl) rfl #[.slice Ao104 t346.length co104] rfl (by (try simp only [List.map_toArray, List.map_cons, List.map_nil]); first | done | rfl | (simp only [List.length_drop, List.length_take]; rfl)) ?_; (with_reducible refine (watchmanlaw21_smudge.calls kj26 (fun k_ => some k_ = (.slice Ao104 t346.length co104 : Value).ownBlock) (.slice Ao104 t346.length co104) t346 t384 w _ ?side1 ?side2 A255.out).mono ?_); (case side1 => repeat (first | (with_reducible first | exact HB.out | apply below_alloc | apply pw_below_drewN | apply below_drew1 | refine below_set ?_ GE300.out | refine below_set ?_ GE305.out | refine below_set ?_ GE312.out | refine below_set ?_ GE322.out | refine below_set ?_ GE332.out | refine below_set ?_ GE333.out | refine below_set ?_ GE343.out | refine below_set ?_ GE344.out | refine below_set ?_ GE351.out | refine below_set ?_ GE358.out | refine below_set ?_ GE364.out | refine below_set ?_ GE370.out) | exact HB.out)); (case side2 => exact Kd.R_tight rfl HO_352001.out); (try clear A255); rintro e w300 ⟨rfl, hy0, hb, hkp⟩; refine ⟨_, rfl, ?_⟩; replace HO_36 := Aside0.mk (Kd.R_mono (Kd.R_keptB (HO_36.out) hkp (fun k_ hk_ hs_ => (hk_.2.2.2.2.2.1) hs_)) (fun _ h_ => h_.1)); replace HO_306001 := Aside0.mk (Kd.R_mono (Kd.R_keptB (HO_306001.out) hkp (fun k_ hk_ hs_ => (hk_.2.2.2.2.2.1) hs_)) (fun _ h_ => h_.1)); replace HO_313001 := Aside0.mk (Kd.R_mono (Kd.R_keptB (HO_313001.out) hkp (fun k_ hk_ hs_ => (hk_.2.2.2.2.2.1) hs_)) (fun _ h_ => h_.1)); replace HO_323001 := Aside0.mk (Kd.R_mono (Kd.R_keptB (HO_323001.out) hkp (fun k_ hk_ hs_ => (hk_.2.2.2.2.2.1) hs_)) (fun _ h_ => h_.1)); replace HO_333001 := Aside0.mk (Kd.R_mono (Kd.R_keptB (HO_333001.out) hkp (fun k_ hk_ hs_ => (hk_.2.2.2.2.2.1) hs_)) (fun _ h_ => h_.1)); replace HO_344001 := Aside0.mk (Kd.R_mono (Kd.R_keptB (HO_344001.out) hkp (fun k_ hk_ hs_ => (hk_.2.2.2.2.2.1) hs_)) (fun _ h_ => h_.1)); replace HO_359001 := Aside0.mk (Kd.R_mono (Kd.R_keptB (HO_359001.out) hkp (fun k_ hk_ hs_ => (hk_.2.2.2.2.2.2.1) hs_)) (fun _ h_ => h_.1)); replace HO_365001 := Aside0.mk (Kd.R_mono (Kd.R_keptB (HO_365001.out) hkp (fun k_ hk_ hs_ => (hk_.2.2.2.2.2.2.1) hs_)) (fun _ h_ => h_.1)); replace HO_371001 := Aside0.mk (Kd.R_mono (Kd.R_keptB (HO_371001.out) hkp (fun k_ hk_ hs_ => (hk_.2.2.2.2.2.2.1) hs_)) (fun _ h_ => h_.1)); replace BK300 := Aside0.mk (blk_kept BK300.out hkp (fun hs_ => (fun e_ => (Kd.R_ne HO_352001.out BK300.out (by decide)) e_) hs_)); replace BK305 := Aside0.mk (blk_kept BK305.out hkp (fun hs_ => (fun e_ => (Kd.R_ne HO_352001.out BK305.out (by decide)) e_) hs_)); replace BK312 := Aside0.mk (blk_kept BK312.out hkp (fun hs_ => (fun e_ => (Kd.R_ne HO_352001.out BK312.out (by decide)) e_) hs_)); replace BK322 := Aside0.mk (blk_kept BK322.out hkp (fun hs_ => (fun e_ => (Kd.R_ne HO_352001.out BK322.out (by decide)) e_) hs_)); replace BK332 := Aside0.mk (blk_kept BK332.out hkp (fun hs_ => (fun e_ => (Kd.R_ne HO_352001.out BK332.out (by decide)) e_) hs_)); replace BK333 := Aside0.mk (blk_kept BK333.out hkp (fun hs_ => (fun e_ => (Kd.R_away HO_352001.out (fun _ hk => hk.2.2.2.2.2.2.2.2.2.1)) e_) hs_)); replace BK343 := Aside0.mk (blk_kept BK343.out hkp (fun hs_ => (fun e_ => (Kd.R_ne HO_352001.out BK343.out (by decide)) e_) hs_)); replace BK344 := Aside0.mk (blk_kept BK344.out hkp (fun hs_ => (fun e_ => (Kd.R_away HO_352001.out (fun _ hk => hk.2.2.2.2.2.2.2.2.2.2)) e_) hs_)); replace BK351 := Aside0.mk (blk_kept BK351.out hkp (fun hs_ => (fun e_ => (Kd.R_ne HO_352001.out BK351.out (by decide)) e_) hs_)); replace BK358 := Aside0.mk (blk_kept BK358.out hkp (fun hs_ => (fun e_ => (Kd.R_ne HO_352001.out BK358.out (by decide)) e_) hs_)); replace BK364 := Aside0.mk (blk_kept BK364.out hkp (fun hs_ => (fun e_ => (Kd.R_ne HO_352001.out BK364.out (by decide)) e_) hs_)); replace BK370 := Aside0.mk (blk_kept BK370.out hkp (fun hs_ => (fun e_ => (Kd.R_ne HO_352001.out BK370.out (by decide)) e_) hs_)); replace HO_352001 := Aside0.mk (Kd.R_reok rfl hy0 (fun k_ e_ => HO_352001.out.1 k_ e_)); replace HB := Aside0.mk (hb); (try clear hb); (try clear hkp); (try clear hy0); have hnb301 := NB364_300.out; have hnc301 := NB300_364.out; have hnb302 := NB364_305.out; have hnc302 := NB305_364.out; have hnb303 := NB364_322.out; have hnc303 := NB322_364.out; have hnb304 := NB364_333.out; have hnc304 := NB333_364.out; have hnb305 := NB364_343.out; have hnc305 := NB343_364.out; have hnb306 := NB364_344.out; have hnc306 := NB344_364.out; have hnb307 := NB364_358.out; have hnc307 := NB358_364.out; have hnb308 := NB364_370.out; have hnc308 := NB370_364.out; have hcz309_0 : w300.cell? ⟨gb364, 0, none⟩ = some (.int .i64 t359) := (blk_cell BK364.out 0).trans rfl; have hcz309_1 : w300.cell? ⟨gb364, 1, none⟩ = some (.slice Ao133 t360.length co133) := (blk_cell BK364.out 1).trans rfl; have hfz309_0 := blk_frozen BK364.out 0; have hfz309_1 := blk_frozen BK364.out 1) | ((with_reducible refine gate_callee (f := 23) rfl ?_); refine goesL_ (some 185) rfl rfl Try.func23 (by kernel_rfl) rfl #[.slice Ao133 t360.length co133] rfl (by (try simp only [List.map_toArray, List.map_cons, List.map_nil]); first | done | rfl | (simp only [List.length_drop, List.length_take]; rfl)) ?_; (with_reducible refine (watchmanlaw21_smudge.calls kj26 (fun k_ => some k_ = (.slice Ao133 t360.length co133 : Value).ownBlock) (.slice Ao133 t360.length co133) t360 t385 w _ ?side1 ?side2 A256.out).mono ?_); (case side1 => repeat (first | (with_reducible first | exact HB.out | apply below_alloc | apply pw_below_drewN | apply below_drew1 | refine below_set ?_ GE300.out | refine below_set ?_ GE305.out | refine below_set ?_ GE312.out | refine below_set ?_ GE322.out | refine below_set ?_ GE332.out | refine below_set ?_ GE333.out | refine below_set ?_ GE343.out | refine below_set ?_ GE344.out | refine below_set ?_ GE351.out | refine below_set ?_ GE358.out | refine below_set ?_ GE364.out | refine below_set ?_ GE370.out) | exact HB.out)); (case side2 => exact Kd.R_tight rfl HO_365001.out); (try clear A256); rintro e w310 ⟨rfl, hy0, hb, hkp⟩; refine ⟨_, rfl, ?_⟩; replace HO_36 := Aside0.mk (Kd.R_mono (Kd.R_keptB (HO_36.out) hkp (fun k_ hk_ hs_ => (hk_.2.2.2.2.2.2.2.1) hs_)) (fun _ h_ => h_.1)); replace HO_306001 := Aside0.mk (Kd.R_mono (Kd.R_keptB (HO_306001.out) hkp (fun k_ hk_ hs_ => (hk_.2.2.2.2.2.2.2.1) hs_)) (fun _ h_ => h_.1)); replace HO_313001 := Aside0.mk (Kd.R_mono (Kd.R_keptB (HO_313001.out) hkp (fun k_ hk_ hs_ => (hk_.2.2.2.2.2.2.2.1) hs_)) (fun _ h_ => h_.1)); replace HO_323001 := Aside0.mk (Kd.R_mono (Kd.R_keptB (HO_323001.out) hkp (fun k_ hk_ hs_ => (hk_.2.2.2.2.2.2.2.1) hs_)) (fun _ h_ => h_.1)); replace HO_333001 := Aside0.mk (Kd.R_mono (Kd.R_keptB (HO_333001.out) hkp (fun k_ hk_ hs_ => (hk_.2.2.2.2.2.2.2.1) hs_)) (fun _ h_ => h_.1)); replace HO_344001 := Aside0.mk (Kd.R_mono (Kd.R_keptB (HO_344001.out) hkp (fun k_ hk_ hs_ => (hk_.2.2.2.2.2.2.2.1) hs_)) (fun _ h_ => h_.1)); replace HO_352001 := Aside0.mk (Kd.R_mono (Kd.R_keptB (HO_352001.out) hkp (fun k_ hk_ hs_ => (hk_.2.2.2.2.2.2.2.1) hs_)) (fun _ h_ => h_.1)); replace HO_359001 := Aside0.mk (Kd.R_mono (Kd.R_keptB (HO_359001.out) hkp (fun k_ hk_ hs_ => (hk_.2.2.2.2.2.2.2.1) hs_)) (fun _ h_ => h_.1)); replace HO_371001 := Aside0.mk (Kd.R_mono (Kd.R_keptB (HO_371001.out) hkp (fun k_ hk_ hs_ => (hk_.2.2.2.2.2.2.2.2.1) hs_)) (fun _ h_ => h_.1)); replace BK300 := Aside0.mk (blk_kept BK300.out hkp (fun hs_ => (fun e_ => (Kd.R_ne HO_365001.out BK300.out (by decide)) e_) hs_)); replace BK305 := Aside0.mk (blk_kept BK305.out hkp (fun hs_ => (fun e_ => (Kd.R_ne HO_365001.out BK305.out (by decide)) e_) hs_)); replace BK312 := Aside0.mk (blk_kept BK312.out hkp (fun hs_ => (fun e_ => (Kd.R_ne HO_365001.out BK312.out (by decide)) e_) hs_)); replace BK322 := Aside0.mk (blk_kept BK322.out hkp (fun hs_ => (fun e_ => (Kd.R_ne HO_365001.out BK322.out (by decide)) e_) hs_)); replace BK332 := Aside0.mk (blk_kept BK332.out hkp (fun hs_ => (fun e_ => (Kd.R_ne HO_365001.out BK332.out (by decide)) e_) hs_)); replace BK333 := Aside0.mk (blk_kept BK333.out hkp (fun hs_ => (fun e_ => (Kd.R_away HO_365001.out (fun _ hk => hk.2.2.2.2.2.2.2.2.2.1)) e_) hs_)); replace BK343 := Aside0.mk (blk_kept BK343.out hkp (fun hs_ => (fun e_ => (Kd.R_ne HO_365001.out BK343.out (by decide)) e_) hs_)); replace BK344 := Aside0.mk (blk_kept BK344.out hkp (fun hs_ => (fun e_ => (Kd.R_away HO_365001.out (fun _ hk => hk.2.2.2.2.2.2.2.2.2.2)) e_) hs_)); replace BK351 := Aside0.mk (blk_kept BK351.out hkp (fun hs_ => (fun e_ => (Kd.R_ne HO_365001.out BK351.out (by decide)) e_) hs_)); replace BK358 := Aside0.mk (blk_kept BK358.out hkp (fun hs_ => (fun e_ => (Kd.R_ne HO_365001.out BK358.out (by decide)) e_) hs_)); replace BK364 := Aside0.mk (blk_kept BK364.out hkp (fun hs_ => (fun e_ => (Kd.R_ne HO_365001.out BK364.out (by decide)) e_) hs_)); replace BK370 := Aside0.mk (blk_kept BK370.out hkp (fun hs_ => (fun e_ => (Kd.R_ne HO_365001.out BK370.out (by decide)) e_) hs_)); replace HO_365001 := Aside0.mk (Kd.R_reok rfl hy0 (fun k_ e_ => HO_365001.out.1 k_ e_)); replace HB := Aside0.mk (hb); (try clear hb); (try clear hkp); (try clear hy0); obtain ⟨Ao311, co311, eo311⟩ := Kd.R_slice HO_36.out; subst eo311) | ((with_reducible refine gate_callee (f := 23) rfl ?_); refine goesL_ (some 187) rfl rfl Try.func23 (by kernel_rfl) rfl #[.slice Ao311 t371.length co311] rfl (by (try simp only [List.map_toArray, List.map_cons, List.map_nil]); first | done | rfl | (simp only [List.length_drop, List.length_take]; rfl)) ?_; (with_reducible refine (watchmanlaw21_smudge.calls kj26 (fun k_ => some k_ = (.slice Ao311 t371.length co311 : Value).ownBlock) (.slice Ao311 t371.length co311) t371 t386 w _ ?side1 ?side2 A257.out).mono ?_); (case side1 => repeat (first | (with_reducible first | exact HB.out | apply below_alloc | apply pw_below_drewN | apply below_drew1 | refine below_set ?_ GE300.out | refine below_set ?_ GE305.out | refine below_set ?_ GE312.out | refine below_set ?_ GE322.out | refine below_set ?_ GE332.out | refine below_set ?_ GE333.out | refine below_set ?_ GE343.out | refine below_set ?_ GE344.out | refine below_set ?_ GE351.out | refine below_set ?_ GE358.out | refine below_set ?_ GE364.out | refine below_set ?_ GE370.out) | exact HB.out)); (case side2 => exact Kd.R_tight rfl HO_36.out); (try clear A257); rintro e w312 ⟨rfl, hy0, hb, hkp⟩; refine ⟨_, rfl, ?_⟩; replace HO_306001 := Aside0.mk (Kd.R_mono (Kd.R_keptB (HO_306001.out) hkp (fun k_ hk_ hs_ => (hk_.1) hs_)) (fun _ h_ => h_.1)); replace HO_313001 := Aside0.mk (Kd.R_mono (Kd.R_keptB (HO_313001.out) hkp (fun k_ hk_ hs_ => (hk_.1) hs_)) (fun _ h_ => h_.1)); replace HO_323001 := Aside0.mk (Kd.R_mono (Kd.R_keptB (HO_323001.out) hkp (fun k_ hk_ hs_ => (hk_.1) hs_)) (fun _ h_ => h_.1)); replace HO_333001 := Aside0.mk (Kd.R_mono (Kd.R_keptB (HO_333001.out) hkp (fun k_ hk_ hs_ => (hk_.1) hs_)) (fun _ h_ => h_.1)); replace HO_344001 := Aside0.mk (Kd.R_mono (Kd.R_keptB (HO_344001.out) hkp (fun k_ hk_ hs_ => (hk_.1) hs_)) (fun _ h_ => h_.1)); replace HO_352001 := Aside0.mk (Kd.R_mono (Kd.R_keptB (HO_352001.out) hkp (fun k_ hk_ hs_ => (hk_.1) hs_)) (fun _ h_ => h_.1)); replace HO_359001 := Aside0.mk (Kd.R_mono (Kd.R_keptB (HO_359001.out) hkp (fun k_ hk_ hs_ => (hk_.1) hs_)) (fun _ h_ => h_.1)); replace HO_365001 := Aside0.mk (Kd.R_mono (Kd.R_keptB (HO_365001.out) hkp (fun k_ hk_ hs_ => (hk_.1) hs_)) (fun _ h_ => h_.1)); replace HO_371001 := Aside0.mk (Kd.R_mono (Kd.R_keptB (HO_371001.out) hkp (fun k_ hk_ hs_ => (hk_.1) hs_)) (fun _ h_ => h_.1)); replace BK300 := Aside0.mk (blk_kept BK300.out hkp (fun hs_ => (fun e_ => (Kd.R_ne HO_36.out BK300.out (by decide)) e_) hs_)); replace BK305 := Aside0.mk (blk_kept BK305.out hkp (fun hs_ => (fun e_ => (Kd.R_ne HO_36.out BK305.out (by decide)) e_) hs_)); replace BK312 := Aside0.mk (blk_kept BK312.out hkp (fun hs_ => (fun e_ => (Kd.R_ne HO_36.out BK312.out (by decide)) e_) hs_)); replace BK322 := Aside0.mk (blk_kept BK322.out hkp (fun hs_ => (fun e_ => (Kd.R_ne HO_36.out BK322.out (by decide)) e_) hs_)); replace BK332 := Aside0.mk (blk_kept BK332.out hkp (fun hs_ => (fun e_ => (Kd.R_ne HO_36.out BK332.out (by decide)) e_) hs_)); replace BK333 := Aside0.mk (blk_kept BK333.out hkp (fun hs_ => (fun e_ => (Kd.R_away HO_36.out (fun _ hk => hk.2.2.2.2.2.2.2.2.2.1)) e_) hs_)); replace BK343 := Aside0.mk (blk_kept BK343.out hkp (fun hs_ => (fun e_ => (Kd.R_ne HO_36.out BK343.out (by decide)) e_) hs_)); replace BK344 := Aside0.mk (blk_kept BK344.out hkp (fun hs_ => (fun e_ => (Kd.R_away HO_36.out (fun _ hk => hk.2.2.2.2.2.2.2.2.2.2)) e_) hs_)); replace BK351 := Aside0.mk (blk_kept BK351.out hkp (fun hs_ => (fun e_ => (Kd.R_ne HO_36.out BK351.out (by decide)) e_) hs_)); replace BK358 := Aside0.mk (blk_kept BK358.out hkp (fun hs_ => (fun e_ => (Kd.R_ne HO_36.out BK358.out (by decide)) e_) hs_)); replace BK364 := Aside0.mk (blk_kept BK364.out hkp (fun hs_ => (fun e_ => (Kd.R_ne HO_36.out BK364.out (by decide)) e_) hs_)); replace BK370 := Aside0.mk (blk_kept BK370.out hkp (fun hs_ => (fun e_ => (Kd.R_ne HO_36.out BK370.out (by decide)) e_) hs_)); replace HO_36 := Aside0.mk (Kd.R_reok rfl hy0 (fun k_ e_ => HO_36.out.1 k_ e_)); replace HB := Aside0.mk (hb); (try clear hb); (try clear hkp); (try clear hy0)))
                  replace HO_36 := Aside0.mk (Kd.R_drew HO_36.out)
                  replace HO_306001 := Aside0.mk (Kd.R_drew HO_306001.out)
                  replace HO_313001 := Aside0.mk (Kd.R_drew HO_313001.out)
                  replace HO_323001 := Aside0.mk (Kd.R_drew HO_323001.out)
                  replace HO_333001 := Aside0.mk (Kd.R_drew HO_333001.out)
                  replace HO_344001 := Aside0.mk (Kd.R_drew HO_344001.out)
                  replace HO_352001 := Aside0.mk (Kd.R_drew HO_352001.out)
                  replace HO_359001 := Aside0.mk (Kd.R_drew HO_359001.out)
                  replace HO_365001 := Aside0.mk (Kd.R_drew HO_365001.out)
                  replace HO_371001 := Aside0.mk (Kd.R_drew HO_371001.out)
                  replace BK300 := Aside0.mk (blk_drew BK300.out)
                  replace BK305 := Aside0.mk (blk_drew BK305.out)
                  replace BK312 := Aside0.mk (blk_drew BK312.out)
                  replace BK322 := Aside0.mk (blk_drew BK322.out)
                  replace BK332 := Aside0.mk (blk_drew BK332.out)
                  replace BK333 := Aside0.mk (blk_drew BK333.out)
                  replace BK343 := Aside0.mk (blk_drew BK343.out)
                  replace BK344 := Aside0.mk (blk_drew BK344.out)
                  replace BK351 := Aside0.mk (blk_drew BK351.out)
                  replace BK358 := Aside0.mk (blk_drew BK358.out)
                  replace BK364 := Aside0.mk (blk_drew BK364.out)
                  replace BK370 := Aside0.mk (blk_drew BK370.out)
                  replace HB := Aside0.mk (below_drew1 HB.out)
                  refine start_ (n := 17) (S := fun w' => w'.cell? ⟨gb300, 0, none⟩ = some (.int .i64 a0_0) ∧ w'.cell? ⟨gb300, 1, none⟩ = some (.slice A0_1 l0_1.length c0_1) ∧ w'.cell? ⟨gb305, 0, none⟩ = some (.int .i64 a0_0) ∧ w'.cell? ⟨gb305, 1, none⟩ = some (.slice Ao33 t302.length co33)) (ds := []) #[false, false, false, false, false, false, false, false, false, false, false, false, false, false, false, false, false] (by kernel_rfl) rfl rfl ⟨(blk_cell BK300.out 0).trans rfl, (blk_cell BK300.out 1).trans rfl, (blk_cell BK305.out 0).trans rfl, (blk_cell BK305.out 1).trans rfl⟩ (fun hHeld => ?_); refine with_tabW watchmanlaw21_PostDoes.tab19 watchmanlaw21_PostDoes.bits19 (fun HT_ HW_ => ?_)
                  generalize w312.drew = w313 at HO_36 HO_306001 HO_313001 HO_323001 HO_333001 HO_344001 HO_352001 HO_359001 HO_365001 HO_371001 BK300 BK305 BK312 BK322 BK332 BK333 BK343 BK344 BK351 BK358 BK364 BK370 HB hHeld ⊢
                  refine one_ (i := 0) (N := some 188) (dn_ 1 17) rfl rfl (one_of HT_.out (by kernel_rfl)) (by decide) (fun K hK => ?_)
                  refine goes_ Try.func24 (by kernel_rfl) rfl #[] (by rfl) rfl rfl (by (try simp only [List.map_toArray, List.map_cons, List.map_nil]); first | done | rfl | (simp only [List.length_drop, List.length_take]; rfl)) ?_
                  with_reducible refine (watchmanlaw21_posted.calls kj26  true _ A258.out).mono ?_
                  rintro e w314 ⟨rfl, hb⟩
                  refine ⟨_, rfl, ?_⟩
                  replace HO_36 := rb_ HO_36 hb
                  replace HO_306001 := rb_ HO_306001 hb
                  replace HO_313001 := rb_ HO_313001 hb
                  replace HO_323001 := rb_ HO_323001 hb
                  replace HO_333001 := rb_ HO_333001 hb
                  replace HO_344001 := rb_ HO_344001 hb
                  replace HO_352001 := rb_ HO_352001 hb
                  replace HO_359001 := rb_ HO_359001 hb
                  replace HO_365001 := rb_ HO_365001 hb
                  replace HO_371001 := rb_ HO_371001 hb
                  replace BK300 := bl_ BK300 hb
                  replace BK305 := bl_ BK305 hb
                  replace BK312 := bl_ BK312 hb
                  replace BK322 := bl_ BK322 hb
                  replace BK332 := bl_ BK332 hb
                  replace BK333 := bl_ BK333 hb
                  replace BK343 := bl_ BK343 hb
                  replace BK344 := bl_ BK344 hb
                  replace BK351 := bl_ BK351 hb
                  replace BK358 := bl_ BK358 hb
                  replace BK364 := bl_ BK364 hb
                  replace BK370 := bl_ BK370 hb
                  replace HB := Aside0.mk (below_step (by repeat (with_reducible first | exact HB.out | apply pw_below_drewN | apply below_drew1 | refine below_set ?_ (Aside0.out (by assumption)))) hb)
                  (try clear hb)
                  (try clear hb2)
                  (try clear hk)
                  (try clear hi)
                  refine hK.out _ _ ⟨(blk_cell BK300.out 0).trans rfl, (blk_cell BK300.out 1).trans rfl, (blk_cell BK305.out 0).trans rfl, (blk_cell BK305.out 1).trans rfl⟩ (fun hHeld => ?_)
                  clear hK K
                  refine norm_ (a' := ?_) ?_ ?_
                  rotate_left
                  · show Act.put _ (some 188) _ = _
                    simp only [Act.put, List.setIfInBounds_toArray, List.set_cons_zero, List.set_cons_succ, i64_w, i32_w]
                    rfl
                  refine pure_ (i := 1) (N := some 189) (v := ?_) (a' := ?_) (dn_ 2 17) rfl rfl (any_of HT_.out (by kernel_rfl)) (fun _ _ _ h => h) (Or.inl ⟨by rfl, ?_⟩) ?_ ?_
                  rotate_left
                  · intro w'
                    go_simp
                    with_reducible rfl
                  rotate_left; (simp only [Act.put, List.setIfInBounds_toArray, List.set_cons_zero, List.set_cons_succ, i64_w, i32_w]; rfl)
                  refine pure_ (i := 2) (N := some 190) (v := ?_) (a' := ?_) (dn_ 3 17) rfl rfl (any_of HT_.out (by kernel_rfl)) (fun _ _ _ h => h) (Or.inl ⟨by rfl, ?_⟩) ?_ ?_
                  rotate_left
                  · intro w'
                    go_simp
                    with_reducible rfl
                  rotate_left; (simp only [Act.put, List.setIfInBounds_toArray, List.set_cons_zero, List.set_cons_succ, i64_w, i32_w]; rfl)
                  refine pure_ (i := 3) (N := some 191) (v := ?_) (a' := ?_) (dn_ 4 17) rfl rfl (any_of HT_.out (by kernel_rfl)) (fun _ _ _ h => h) (Or.inl ⟨by rfl, ?_⟩) ?_ ?_
                  rotate_left
                  · intro w'
                    go_simp
                    with_reducible rfl
                  rotate_left; (simp only [Act.put, List.setIfInBounds_toArray, List.set_cons_zero, List.set_cons_succ, i64_w, i32_w]; rfl)
                  refine pure_ (i := 4) (N := some 192) (v := ?_) (a' := ?_) (dn_ 5 17) rfl rfl (any_of HT_.out (by kernel_rfl)) (fun _ _ _ h => h) (Or.inl ⟨by rfl, ?_⟩) ?_ ?_
                  rotate_left
                  · intro w'
                    go_simp
                    with_reducible rfl
                  rotate_left; (simp only [Act.put, List.setIfInBounds_toArray, List.set_cons_zero, List.set_cons_succ, i64_w, i32_w]; rfl)
                  refine take_ (i := 5) (N := some 193) (v := ?_) (a' := ?_) (dn_ 6 17) rfl rfl (take_ofW HT_.out HW_.out (by kernel_rfl)) (fun _ _ _ h => h) (Or.inl ⟨by rfl, ?_⟩) hHeld ?_ ?_
                  rotate_left
                  · rintro w' ⟨s0, s1, s2, s3⟩
                    go_simp
                    with_reducible rfl
                  rotate_left; (simp only [Act.put, List.setIfInBounds_toArray, List.set_cons_zero, List.set_cons_succ, i64_w, i32_w]; rfl)
                  refine take_ (i := 7) (N := some 195) (v := ?_) (a' := ?_) #[true, true, true, true, true, true, false, true, false, false, false, false, false, false, false, false, false] rfl rfl (take_ofW HT_.out HW_.out (by kernel_rfl)) (fun _ _ _ h => h) (Or.inl ⟨by rfl, ?_⟩) hHeld ?_ ?_
                  rotate_left
                  · rintro w' ⟨s0, s1, s2, s3⟩
                    go_simp
                    with_reducible rfl
                  rotate_left; (simp only [Act.put, List.setIfInBounds_toArray, List.set_cons_zero, List.set_cons_succ, i64_w, i32_w]; rfl)
                  refine one_ (i := 6) (N := some 194) (dn_ 8 17) rfl rfl (one_of HT_.out (by kernel_rfl)) (by decide) (fun K hK => ?_)
                  refine goes_ Try.func25 (by kernel_rfl) rfl #[.agg #[.int .i64 a0_0, .slice A0_1 l0_1.length c0_1]] (by rfl) rfl rfl (by (try simp only [List.map_toArray, List.map_cons, List.map_nil]); first | done | rfl | (simp only [List.length_drop, List.length_take]; rfl)) ?_
                  with_reducible refine (post_Is.calls kj26 a0_0 _ _ l0_1 t388 _ ?side1 ?side2 A261.out).mono ?_
                  (case side1 => exact (Kd.C_below HR0_1.out HB.out))
                  (case side2 => exact HC0_1.out)
                  rintro e w315 ⟨rfl, hb⟩
                  refine ⟨_, rfl, ?_⟩
                  replace HO_36 := rb_ HO_36 hb
                  replace HO_306001 := rb_ HO_306001 hb
                  replace HO_313001 := rb_ HO_313001 hb
                  replace HO_323001 := rb_ HO_323001 hb
                  replace HO_333001 := rb_ HO_333001 hb
                  replace HO_344001 := rb_ HO_344001 hb
                  replace HO_352001 := rb_ HO_352001 hb
                  replace HO_359001 := rb_ HO_359001 hb
                  replace HO_365001 := rb_ HO_365001 hb
                  replace HO_371001 := rb_ HO_371001 hb
                  replace BK300 := bl_ BK300 hb
                  replace BK305 := bl_ BK305 hb
                  replace BK312 := bl_ BK312 hb
                  replace BK322 := bl_ BK322 hb
                  replace BK332 := bl_ BK332 hb
                  replace BK333 := bl_ BK333 hb
                  replace BK343 := bl_ BK343 hb
                  replace BK344 := bl_ BK344 hb
                  replace BK351 := bl_ BK351 hb
                  replace BK358 := bl_ BK358 hb
                  replace BK364 := bl_ BK364 hb
                  replace BK370 := bl_ BK370 hb
                  replace HB := Aside0.mk (below_step (by repeat (with_reducible first | exact HB.out | apply pw_below_drewN | apply below_drew1 | refine below_set ?_ (Aside0.out (by assumption)))) hb)
                  (try clear hb)
                  (try clear hb2)
                  (try clear hk)
                  (try clear hi)
                  refine hK.out _ _ ⟨(blk_cell BK300.out 0).trans rfl, (blk_cell BK300.out 1).trans rfl, (blk_cell BK305.out 0).trans rfl, (blk_cell BK305.out 1).trans rfl⟩ (fun hHeld => ?_)
                  clear hK K
                  refine norm_ (a' := ?_) ?_ ?_
                  rotate_left
                  · show Act.put _ (some 194) _ = _
                    simp only [Act.put, List.setIfInBounds_toArray, List.set_cons_zero, List.set_cons_succ, i64_w, i32_w]
                    rfl
                  refine one_ (i := 8) (N := some 196) (dn_ 9 17) rfl rfl (one_of HT_.out (by kernel_rfl)) (by decide) (fun K hK => ?_)
                  refine goes_ Try.func26 (by kernel_rfl) rfl #[.agg #[.int .i64 a0_0, .slice Ao33 t302.length co33]] (by rfl) rfl rfl (by (try simp only [List.map_toArray, List.map_cons, List.map_nil]); first | done | rfl | (simp only [List.length_drop, List.length_take]; rfl)) ?_
                  with_reducible refine (watchmanref21_Is.calls kj26 a0_0 _ _ t302 t389 _ ?side1 ?side2 A262.out).mono ?_
                  (case side1 => repeat (first | exact (Kd.R_reads' HO_306001.out).2.2 | (with_reducible refine Kd.C_alloc ?_ _) | (with_reducible refine Kd.C_drewN ?_ _) | (with_reducible refine Kd.C_drew ?_)))
                  (case side2 => exact (Kd.R_reads' HO_306001.out).2.1)
                  rintro e w316 ⟨rfl, hb⟩
                  refine ⟨_, rfl, ?_⟩
                  replace HO_36 := rb_ HO_36 hb
                  replace HO_306001 := rb_ HO_306001 hb
                  replace HO_313001 := rb_ HO_313001 hb
                  replace HO_323001 := rb_ HO_323001 hb
                  replace HO_333001 := rb_ HO_333001 hb
                  replace HO_344001 := rb_ HO_344001 hb
                  replace HO_352001 := rb_ HO_352001 hb
                  replace HO_359001 := rb_ HO_359001 hb
                  replace HO_365001 := rb_ HO_365001 hb
                  replace HO_371001 := rb_ HO_371001 hb
                  replace BK300 := bl_ BK300 hb
                  replace BK305 := bl_ BK305 hb
                  replace BK312 := bl_ BK312 hb
                  replace BK322 := bl_ BK322 hb
                  replace BK332 := bl_ BK332 hb
                  replace BK333 := bl_ BK333 hb
                  replace BK343 := bl_ BK343 hb
                  replace BK344 := bl_ BK344 hb
                  replace BK351 := bl_ BK351 hb
                  replace BK358 := bl_ BK358 hb
                  replace BK364 := bl_ BK364 hb
                  replace BK370 := bl_ BK370 hb
                  replace HB := Aside0.mk (below_step (by repeat (with_reducible first | exact HB.out | apply pw_below_drewN | apply below_drew1 | refine below_set ?_ (Aside0.out (by assumption)))) hb)
                  (try clear hb)
                  (try clear hb2)
                  (try clear hk)
                  (try clear hi)
                  refine hK.out _ _ ⟨(blk_cell BK300.out 0).trans rfl, (blk_cell BK300.out 1).trans rfl, (blk_cell BK305.out 0).trans rfl, (blk_cell BK305.out 1).trans rfl⟩ (fun hHeld => ?_)
                  clear hK K
                  refine norm_ (a' := ?_) ?_ ?_
                  rotate_left
                  · show Act.put _ (some 196) _ = _
                    simp only [Act.put, List.setIfInBounds_toArray, List.set_cons_zero, List.set_cons_succ, i64_w, i32_w]
                    rfl
                  refine pure_ (i := 9) (N := some 197) (v := ?_) (a' := ?_) (dn_ 10 17) rfl rfl (any_of HT_.out (by kernel_rfl)) (fun _ _ _ h => h) (Or.inl ⟨by rfl, ?_⟩) ?_ ?_
                  rotate_left
                  · intro w'
                    go_simp
                    with_reducible rfl
                  rotate_left; (simp only [Act.put, List.setIfInBounds_toArray, List.set_cons_zero, List.set_cons_succ, i64_w, i32_w]; rfl)
                  refine pure_ (i := 10) (N := some 198) (v := ?_) (a' := ?_) (dn_ 11 17) rfl rfl (any_of HT_.out (by kernel_rfl)) (fun _ _ _ h => h) (Or.inl ⟨by rfl, ?_⟩) ?_ ?_
                  rotate_left
                  · intro w'
                    go_simp
                    with_reducible rfl
                  rotate_left; (simp only [Act.put, List.setIfInBounds_toArray, List.set_cons_zero, List.set_cons_succ, i64_w, i32_w]; rfl)
                  refine pure_ (i := 11) (N := some 199) (v := ?_) (a' := ?_) (dn_ 12 17) rfl rfl (any_of HT_.out (by kernel_rfl)) (fun _ _ _ h => h) (Or.inl ⟨by rfl, ?_⟩) ?_ ?_
                  rotate_left
                  · intro w'
                    go_simp
                    with_reducible rfl
                  rotate_left; (simp only [Act.put, List.setIfInBounds_toArray, List.set_cons_zero, List.set_cons_succ, i64_w, i32_w]; rfl)
                  refine take_ (i := 12) (N := some 200) (v := ?_) (a' := ?_) (dn_ 13 17) rfl rfl (take_ofW HT_.out HW_.out (by kernel_rfl)) (fun _ _ _ h => h) (Or.inl ⟨by rfl, ?_⟩) hHeld ?_ ?_
                  rotate_left
                  · rintro w' ⟨s0, s1, s2, s3⟩
                    go_simp
                    with_reducible rfl
                  rotate_left; (simp only [Act.put, List.setIfInBounds_toArray, List.set_cons_zero, List.set_cons_succ, i64_w, i32_w]; rfl)
                  refine take_ (i := 13) (N := some 201) (v := ?_) (a' := ?_) (dn_ 14 17) rfl rfl (take_ofW HT_.out HW_.out (by kernel_rfl)) (fun _ _ _ h => h) (Or.inl ⟨by rfl, ?_⟩) hHeld ?_ ?_
                  rotate_left
                  · rintro w' ⟨s0, s1, s2, s3⟩
                    go_simp
                    with_reducible rfl
                  rotate_left; (simp only [Act.put, List.setIfInBounds_toArray, List.set_cons_zero, List.set_cons_succ, i64_w, i32_w]; rfl)
                  refine one_ (i := 14) (N := some 202) (dn_ 15 17) rfl rfl (one_of HT_.out (by kernel_rfl)) (by decide) (fun K hK => ?_)
                  refine goes_ Try.func20 (by kernel_rfl) rfl #[.agg #[.int .i64 a0_0, .slice A0_1 l0_1.length c0_1], .agg #[.int .i64 a0_0, .slice Ao33 t302.length co33]] (by rfl) rfl rfl (by (try simp only [List.map_toArray, List.map_cons, List.map_nil]); first | done | rfl | (simp only [List.length_drop, List.length_take]; rfl)) ?_
                  with_reducible refine (watchmanref21_Same.calls kj26 a0_0 _ _ l0_1 a0_0 _ _ t302 t390 _ ?side1 ?side2 ?side3 ?side4 A264.out).mono ?_
                  (case side1 => exact (Kd.C_below HR0_1.out HB.out))
                  (case side2 => exact HC0_1.out)
                  (case side3 => repeat (first | exact (Kd.R_reads' HO_306001.out).2.2 | (with_reducible refine Kd.C_alloc ?_ _) | (with_reducible refine Kd.C_drewN ?_ _) | (with_reducible refine Kd.C_drew ?_)))
                  (case side4 => exact (Kd.R_reads' HO_306001.out).2.1)
                  rintro e w317 ⟨rfl, hb⟩
                  refine ⟨_, rfl, ?_⟩
                  replace HO_36 := rb_ HO_36 hb
                  replace HO_306001 := rb_ HO_306001 hb
                  replace HO_313001 := rb_ HO_313001 hb
                  replace HO_323001 := rb_ HO_323001 hb
                  replace HO_333001 := rb_ HO_333001 hb
                  replace HO_344001 := rb_ HO_344001 hb
                  replace HO_352001 := rb_ HO_352001 hb
                  replace HO_359001 := rb_ HO_359001 hb
                  replace HO_365001 := rb_ HO_365001 hb
                  replace HO_371001 := rb_ HO_371001 hb
                  replace BK300 := bl_ BK300 hb
                  replace BK305 := bl_ BK305 hb
                  replace BK312 := bl_ BK312 hb
                  replace BK322 := bl_ BK322 hb
                  replace BK332 := bl_ BK332 hb
                  replace BK333 := bl_ BK333 hb
                  replace BK343 := bl_ BK343 hb
                  replace BK344 := bl_ BK344 hb
                  replace BK351 := bl_ BK351 hb
                  replace BK358 := bl_ BK358 hb
                  replace BK364 := bl_ BK364 hb
                  replace BK370 := bl_ BK370 hb
                  replace HB := Aside0.mk (below_step (by repeat (with_reducible first | exact HB.out | apply pw_below_drewN | apply below_drew1 | refine below_set ?_ (Aside0.out (by assumption)))) hb)
                  (try clear hb)
                  (try clear hb2)
                  (try clear hk)
                  (try clear hi)
                  refine hK.out _ _ ⟨(blk_cell BK300.out 0).trans rfl, (blk_cell BK300.out 1).trans rfl, (blk_cell BK305.out 0).trans rfl, (blk_cell BK305.out 1).trans rfl⟩ (fun hHeld => ?_)
                  clear hK K
                  refine norm_ (a' := ?_) ?_ ?_
                  rotate_left
                  · show Act.put _ (some 202) _ = _
                    simp only [Act.put, List.setIfInBounds_toArray, List.set_cons_zero, List.set_cons_succ, i64_w, i32_w]
                    rfl
                  refine pure_ (i := 15) (N := some 203) (v := ?_) (a' := ?_) (dn_ 16 17) rfl rfl (any_of HT_.out (by kernel_rfl)) (fun _ _ _ h => h) (Or.inl ⟨by rfl, ?_⟩) ?_ ?_
                  rotate_left
                  · intro w'
                    go_simp
                    with_reducible rfl
                  rotate_left; (simp only [Act.put, List.setIfInBounds_toArray, List.set_cons_zero, List.set_cons_succ, i64_w, i32_w]; rfl)
                  refine pure_ (i := 16) (N := some 12) (v := ?_) (a' := ?_) #[true, true, true, true, true, true, true, true, true, true, true, true, true, true, true, true, true] rfl rfl (any_of HT_.out (by kernel_rfl)) (fun _ _ _ h => h) (Or.inl ⟨by rfl, ?_⟩) ?_ ?_
                  rotate_left
                  · intro w'
                    go_simp
                    with_reducible rfl
                  rotate_left; (simp only [Act.put, List.setIfInBounds_toArray, List.set_cons_zero, List.set_cons_succ, i64_w, i32_w]; rfl)
                  refine done_ (done_of HT_.out (by kernel_rfl)) ?_
                  try go_wp2
                  go_ret
                  exact ⟨by first | rfl | (simp [errW_none, errW_some] <;> rfl) | (simp [*, errW_none, errW_some] <;> rfl), by repeat (with_reducible first | exact HB.out | apply pw_below_drewN | apply below_drew1 | refine below_set ?_ (Aside0.out (by assumption)))⟩
                · rw [if_neg c263] at H
                  exact absurd H (by simp)
              · replace c260 := Bool.eq_false_iff.mpr c260
                subst c260
                have H1 : (none) = some r := by rw [if_neg (show ¬ (false = true) by decide)] at H; exact H
                clear H
                have H := H1
                clear H1
                exact absurd H (by simp)
            · replace c259 := Bool.eq_false_iff.mpr c259
              subst c259
              have H1 : (none) = some r := by rw [if_neg (show ¬ (false = true) by decide)] at H; exact H
              clear H
              have H := H1
              clear H1
              exact absurd H (by simp)

end Go.Proofs.Ytofbkpdpgmjllaa.F
