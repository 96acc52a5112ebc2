-- Written by a program of this session (xprint.py), out of the translation and of contracts proved by hand.
import Derived.Test.YtcfpbmdndapeaaaF0
import Derived.Test.YtcfpbmdndapeaaaF8
namespace Go.Proofs.Ytcfpbmdndapeaaa.F
open Go.RowKit Go.Proofs.YtcfpbmdndapeaaaV.PrintWords Go.Proofs.YtcfpbmdndapeaaaV.PrintLast Go.Proofs.YtcfpbmdndapeaaaV.PrintMore
attribute [local go_sem] max2_int min2_int max_two min_two max_three min_three max_four min_four   -- for this text's walks alone
set_option linter.unusedVariables false
set_option linter.unusedSimpArgs false

/-! ### watchmanref08_Is: function 33 -/
mutual
def watchmanref08_Is.j0 : Nat → Bool → Int → Int → List (S28) → Option (Bool)
 | 0, _, _, _, _ => none
 | k + 1, x29, x211000, x211001, x211002 => if x29 = true then (some false) else (watchmanref08_Is.l0 k 0 x211000 x211001 x211002)
def watchmanref08_Is.l0 : Nat → Int → Int → Int → List (S28) → Option (Bool)
 | 0, _, _, _, _ => none
 | k + 1, x3, x211000, x211001, x211002 => if x3 < (x211002.length : Int) then (if 0 ≤ x3 then ((watchmanref06_Is.f ((rd_T28 x211002 x3).f0.f0) ((rd_T28 x211002 x3).f0.f1) ((rd_T28 x211002 x3).f1) ((rd_T28 x211002 x3).f2) ((rd_T28 x211002 x3).f3) ((rd_T28 x211002 x3).f4)).bind fun t212 => (if t212 = true then (if ((rd_T28 x211002 x3).f3) > x211001 then (watchmanref08_Is.j2 k x3 true x211000 x211001 x211002) else (if x3 > 0 then (if 0 ≤ (wrap64 (x3 - 1)) then (if (wrap64 (x3 - 1)) < (x211002.length : Int) then ((watchmanref04_Less.f ((rd_T28 x211002 (wrap64 (x3 - 1))).f0.f0) ((rd_T28 x211002 (wrap64 (x3 - 1))).f0.f1) ((rd_T28 x211002 x3).f0.f0) ((rd_T28 x211002 x3).f0.f1)).bind fun t216 => (watchmanref08_Is.j2 k x3 (!t216) x211000 x211001 x211002)) else (none)) else (none)) else (watchmanref08_Is.j2 k x3 false x211000 x211001 x211002))) else (watchmanref08_Is.j2 k x3 true x211000 x211001 x211002))) else (none)) else (some true)
def watchmanref08_Is.j2 : Nat → Int → Bool → Int → Int → List (S28) → Option (Bool)
 | 0, _, _, _, _, _ => none
 | k + 1, x3, x75, x211000, x211001, x211002 => if x75 = true then (some false) else (watchmanref08_Is.l0 k (wrap64 (x3 + 1)) x211000 x211001 x211002)
end
def watchmanref08_Is.f (k : Nat) (a0_0 : Int) (a0_1 : Int) (l0_2 : List (S28)) : Option (Bool) := if a0_0 < 1 then (watchmanref08_Is.j0 k true a0_0 a0_1 l0_2) else (if a0_0 > 200 then (watchmanref08_Is.j0 k true a0_0 a0_1 l0_2) else (if a0_1 < 0 then (watchmanref08_Is.j0 k true a0_0 a0_1 l0_2) else (if a0_1 > 1000000000 then (watchmanref08_Is.j0 k true a0_0 a0_1 l0_2) else (watchmanref08_Is.j0 k (decide ((l0_2.length : Int) > a0_0)) a0_0 a0_1 l0_2))))
theorem watchmanref08_Is.mono_l : ∀ k, (∀ y0 y1 y2 y3, LeO (watchmanref08_Is.j0 k y0 y1 y2 y3) (watchmanref08_Is.j0 (k + 1) y0 y1 y2 y3)) ∧ (∀ y0 y1 y2 y3, LeO (watchmanref08_Is.l0 k y0 y1 y2 y3) (watchmanref08_Is.l0 (k + 1) y0 y1 y2 y3)) ∧ (∀ y0 y1 y2 y3 y4, LeO (watchmanref08_Is.j2 k y0 y1 y2 y3 y4) (watchmanref08_Is.j2 (k + 1) y0 y1 y2 y3 y4))
 | 0 => ⟨fun _ _ _ _ r h => by simp [watchmanref08_Is.j0] at h, fun _ _ _ _ r h => by simp [watchmanref08_Is.l0] at h, fun _ _ _ _ _ r h => by simp [watchmanref08_Is.j2] at h⟩
 | k + 1 => by
  obtain ⟨ih0, ih1, ih2⟩ := watchmanref08_Is.mono_l k
  refine ⟨?_, ?_, ?_⟩
  ·intro y0 y1 y2 y3
   unfold watchmanref08_Is.j0
   repeat' first
   | (with_reducible exact ih0 _ _ _ _)
   | (with_reducible exact ih1 _ _ _ _)
   | (with_reducible exact ih2 _ _ _ _ _)
   | (with_reducible exact LeO.refl _)
   | (with_reducible exact LeO.none _)
   | (with_reducible refine LeO.ite ?_ ?_)
   | (with_reducible refine LeO.bind ?_ (fun _ => ?_))
   | exact ih0 _ _ _ _
   | exact ih1 _ _ _ _
   | exact ih2 _ _ _ _ _
   | exact LeO.none _
   | refine LeO.ite ?_ ?_
   | refine LeO.bind ?_ (fun _ => ?_)
  ·intro y0 y1 y2 y3
   unfold watchmanref08_Is.l0
   repeat' first
   | (with_reducible exact ih0 _ _ _ _)
   | (with_reducible exact ih1 _ _ _ _)
   | (with_reducible exact ih2 _ _ _ _ _)
   | (with_reducible exact LeO.refl _)
   | (with_reducible exact LeO.none _)
   | (with_reducible refine LeO.ite ?_ ?_)
   | (with_reducible refine LeO.bind ?_ (fun _ => ?_))
   | exact ih0 _ _ _ _
   | exact ih1 _ _ _ _
   | exact ih2 _ _ _ _ _
   | exact LeO.none _
   | refine LeO.ite ?_ ?_
   | refine LeO.bind ?_ (fun _ => ?_)
  ·intro y0 y1 y2 y3 y4
   unfold watchmanref08_Is.j2
   repeat' first
   | (with_reducible exact ih0 _ _ _ _)
   | (with_reducible exact ih1 _ _ _ _)
   | (with_reducible exact ih2 _ _ _ _ _)
   | (with_reducible exact LeO.refl _)
   | (with_reducible exact LeO.none _)
   | (with_reducible refine LeO.ite ?_ ?_)
   | (with_reducible refine LeO.bind ?_ (fun _ => ?_))
   | exact ih0 _ _ _ _
   | exact ih1 _ _ _ _
   | exact ih2 _ _ _ _ _
   | exact LeO.none _
   | refine LeO.ite ?_ ?_
   | refine LeO.bind ?_ (fun _ => ?_)
theorem watchmanref08_Is.mono : ∀ a0 a1 a2 k, LeO (watchmanref08_Is.f k a0 a1 a2) (watchmanref08_Is.f (k + 1) a0 a1 a2) := by
 intro a0 a1 a2 k
 obtain ⟨ih0, ih1, ih2⟩ := watchmanref08_Is.mono_l k
 unfold watchmanref08_Is.f
 repeat' first
   | (with_reducible exact ih0 _ _ _ _)
   | (with_reducible exact ih1 _ _ _ _)
   | (with_reducible exact ih2 _ _ _ _ _)
   | (with_reducible exact LeO.refl _)
   | (with_reducible exact LeO.none _)
   | (with_reducible refine LeO.ite ?_ ?_)
   | (with_reducible refine LeO.bind ?_ (fun _ => ?_))
   | exact ih0 _ _ _ _
   | exact ih1 _ _ _ _
   | exact ih2 _ _ _ _ _
   | exact LeO.none _
   | refine LeO.ite ?_ ?_
   | refine LeO.bind ?_ (fun _ => ?_)
def watchmanref08_Is.T6 : Bool × List (List Nat × List Nat) := (true, [([], []), ([0], [0]), ([], []), ([1, 2], [1, 2]), ([3], [3]), ([4], [4]), ([5], [5]), ([6, 5], [6]), ([7], [7]), ([8, 7], [7, 8]), ([7], [7]), ([9, 10, 7], [7, 9, 10]), ([11, 7], [7, 11]), ([12, 7], [7, 12]), ([7], [7]), ([14, 7], [7, 14]), ([13, 15, 7], [7, 13, 15]), ([7, 16], [7, 16]), ([17, 7], [17]), ([18], [18]), ([19, 18], [18, 19]), ([20, 18, 18], [18, 20]), ([21], [21]), ([22, 21], [21, 22]), ([21], [21]), ([24, 21], [21, 24]), ([23, 25, 21], [21, 23, 25]), ([26, 21], [21, 26]), ([27, 21], [21, 27]), ([21], [21]), ([29, 21], [21, 29]), ([21], [21]), ([30, 31, 21], [21, 30, 31]), ([32, 21], [21, 32]), ([33, 21], [21, 33]), ([28, 34, 21, 21], [21, 28, 34]), ([35, 21], [21, 35]), ([21, 36, 18], [18, 21, 36]), ([18, 37], [18, 37])])
def watchmanref08_Is.B6 : List Nat := [0, 1, 0, 7, 15, 31, 63, 127, 255, 511, 255, 2047, 4095, 8191, 255, 16639, 65535, 131071, 262143, 524287, 1048575, 2097151, 4194303, 8388607, 4194303, 20971519, 67108863, 134217727, 268435455, 4194303, 541065215, 4194303, 3762290687, 8057257983, 16647192575, 34359738367, 68719476735, 137438953471, 274877906943]
theorem watchmanref08_Is.tab6 : rtab .any (opsOf Try.f33 6) = watchmanref08_Is.T6 := by kernel_rfl
theorem watchmanref08_Is.bits6 : waitsOk watchmanref08_Is.T6.2 watchmanref08_Is.B6 = true := by kernel_rfl
set_option maxHeartbeats 8000000 in
set_option maxRecDepth 100000 in
theorem watchmanref08_Is.calls (k : Nat) (a0_0 : Int) (a0_1 : Int) (A0_2 : Option Addr) (c0_2 : Nat) (l0_2 : List (S28)) (r : Bool) (w : World) (hr0_2 : Kd.C k28 w A0_2 l0_2.length l0_2) (hc0_2 : l0_2.length ≤ c0_2) (h : watchmanref08_Is.f k a0_0 a0_1 l0_2 = some r) :
  Calls Try.prog 33 #[.agg #[.int .i64 a0_0, .int .i64 a0_1, .slice A0_2 l0_2.length c0_2]] w fun e w' => e = .returned (.bool r) ∧ Below w.heap.size w w' := by
 have hu24 := Try.underlying24
 have hu28 := Try.underlying28
 have hu26 := Try.underlying26
 have HR0_2 := Aside0.mk hr0_2
 have HC0_2 := Aside0.mk hc0_2
 clear hr0_2 hc0_2
 have HB := Aside0.mk (Below.refl w.heap.size w)
 have H : (if a0_0 < 1 then (watchmanref08_Is.j0 k true a0_0 a0_1 l0_2) else (if a0_0 > 200 then (watchmanref08_Is.j0 k true a0_0 a0_1 l0_2) else (if a0_1 < 0 then (watchmanref08_Is.j0 k true a0_0 a0_1 l0_2) else (if a0_1 > 1000000000 then (watchmanref08_Is.j0 k true a0_0 a0_1 l0_2) else (watchmanref08_Is.j0 k (decide ((l0_2.length : Int) > a0_0)) a0_0 a0_1 l0_2))))) = some r := h
 clear h
 have HC2 := Aside0.mk H
 clear H
 go_enter Try.func33, Try.ntmps33
 go_upto_region 1 with (first | ((with_reducible refine gate_dst (N := 1) rfl ?_); (try (refine gate_guard (by rfl) ?_; dsimp only)); refine box_event ?hg (N := 1) ?hd (cs := #[.int .i64 a0_0, .int .i64 a0_1, .slice A0_2 l0_2.length c0_2]) (t := 24) ?hr ?_; (case hd => rfl); (case hg => rfl); (case hr => first | (go_simp; done) | (go_simp; rfl)); intro gb210 hg w3 hbox hb; have BK210 := Aside0.mk (hbox); have GW210 := Aside0.mk ((by rw [hg]; exact (below_size HB.out) : w.heap.size ≤ gb210)); have GE210 := Aside0.mk ((by rw [hg]; exact (below_size HB.out) : w.heap.size ≤ gb210)); replace HB := Aside0.mk (below_step HB.out hb); clear hb hbox hg))
 (try simp only [Act.put, List.setIfInBounds_toArray, List.set_cons_zero, List.set_cons_succ])
 go_cut [29] (fun v29 wc => ∃ (kq : Nat) (x29_1 : Bool), v29 = .bool x29_1 ∧ Aside0 (watchmanref08_Is.j0 kq x29_1 a0_0 a0_1 l0_2 = some r) ∧ Aside0 (kq ≤ k) ∧ Aside0 (wc.heap[gb210]? = some (.cells #[.int .i64 a0_0, .int .i64 a0_1, (.slice A0_2 l0_2.length c0_2)] 24 (0, 0))) ∧ Aside0 (Below w.heap.size w wc))
 case first =>
  have H := HC2.out
  clear HC2
  by_cases c4 : a0_0 < 1
  ·rw [if_pos c4] at H
   have c4b0 : decide (a0_0 < 1) = true := decide_eq_true c4
   clear c4
   (first | rw [c4b0] | (simp only [i64_w, i32_w]; rw [c4b0]) | skip)
   have H' := Aside0.mk H
   clear H
   have hcz5_0 : w3.cell? ⟨gb210, 0, none⟩ = some (.int .i64 a0_0) := (blk_cell BK210.out 0).trans rfl
   have hcz5_1 : w3.cell? ⟨gb210, 1, none⟩ = some (.int .i64 a0_1) := (blk_cell BK210.out 1).trans rfl
   have hcz5_2 : w3.cell? ⟨gb210, 2, none⟩ = some (.slice A0_2 l0_2.length c0_2) := (blk_cell BK210.out 2).trans rfl
   have hfz5_0 := blk_frozen BK210.out 0
   have hfz5_1 := blk_frozen BK210.out 1
   have hfz5_2 := blk_frozen BK210.out 2
   go_wp2
   go_meet
   case rel => exact ⟨_, (true), (by first | rfl | (simp; done) | (simp [*]; done)), H', ⟨by first | omega | exact Nat.le_refl _⟩, ⟨by (with_reducible repeat (first | refine blk_drewN ?_ _ | refine blk_drew ?_ | refine blk_alloc ?_ _)); exact BK210.out⟩, ⟨by repeat (with_reducible first | exact HB.out | apply pw_below_drewN | apply below_drew1 | refine below_set ?_ GE210.out)⟩⟩
  ·rw [if_neg c4] at H
   have c4b0 : decide (a0_0 < 1) = false := decide_eq_false c4
   clear c4
   (first | rw [c4b0] | (simp only [i64_w, i32_w]; rw [c4b0]) | skip)
   by_cases c6 : a0_0 > 200
   ·rw [if_pos c6] at H
    have c6b0 : decide (200 < a0_0) = true := decide_eq_true c6
    clear c6
    have H' := Aside0.mk H
    clear H
    have hcz7_0 : w3.cell? ⟨gb210, 0, none⟩ = some (.int .i64 a0_0) := (blk_cell BK210.out 0).trans rfl
    have hcz7_1 : w3.cell? ⟨gb210, 1, none⟩ = some (.int .i64 a0_1) := (blk_cell BK210.out 1).trans rfl
    have hcz7_2 : w3.cell? ⟨gb210, 2, none⟩ = some (.slice A0_2 l0_2.length c0_2) := (blk_cell BK210.out 2).trans rfl
    have hfz7_0 := blk_frozen BK210.out 0
    have hfz7_1 := blk_frozen BK210.out 1
    have hfz7_2 := blk_frozen BK210.out 2
    go_wp2
    go_meet
    case rel => exact ⟨_, (true), (by first | rfl | (simp; done) | (simp [*]; done)), H', ⟨by first | omega | exact Nat.le_refl _⟩, ⟨by (with_reducible repeat (first | refine blk_drewN ?_ _ | refine blk_drew ?_ | refine blk_alloc ?_ _)); exact BK210.out⟩, ⟨by repeat (with_reducible first | exact HB.out | apply pw_below_drewN | apply below_drew1 | refine below_set ?_ GE210.out)⟩⟩
   ·rw [if_neg c6] at H
    have c6b0 : decide (200 < a0_0) = false := decide_eq_false c6
    clear c6
    by_cases c8 : a0_1 < 0
    ·rw [if_pos c8] at H
     have c8b0 : decide (a0_1 < 0) = true := decide_eq_true c8
     clear c8
     have H' := Aside0.mk H
     clear H
     have hcz9_0 : w3.cell? ⟨gb210, 0, none⟩ = some (.int .i64 a0_0) := (blk_cell BK210.out 0).trans rfl
     have hcz9_1 : w3.cell? ⟨gb210, 1, none⟩ = some (.int .i64 a0_1) := (blk_cell BK210.out 1).trans rfl
     have hcz9_2 : w3.cell? ⟨gb210, 2, none⟩ = some (.slice A0_2 l0_2.length c0_2) := (blk_cell BK210.out 2).trans rfl
     have hfz9_0 := blk_frozen BK210.out 0
     have hfz9_1 := blk_frozen BK210.out 1
     have hfz9_2 := blk_frozen BK210.out 2
     go_wp2
     go_meet
     case rel => exact ⟨_, (true), (by first | rfl | (simp; done) | (simp [*]; done)), H', ⟨by first | omega | exact Nat.le_refl _⟩, ⟨by (with_reducible repeat (first | refine blk_drewN ?_ _ | refine blk_drew ?_ | refine blk_alloc ?_ _)); exact BK210.out⟩, ⟨by repeat (with_reducible first | exact HB.out | apply pw_below_drewN | apply below_drew1 | refine below_set ?_ GE210.out)⟩⟩
    ·rw [if_neg c8] at H
     have c8b0 : decide (a0_1 < 0) = false := decide_eq_false c8
     clear c8
     by_cases c10 : a0_1 > 1000000000
     ·rw [if_pos c10] at H
      have c10b0 : decide (1000000000 < a0_1) = true := decide_eq_true c10
      clear c10
      have H' := Aside0.mk H
      clear H
      have hcz11_0 : w3.cell? ⟨gb210, 0, none⟩ = some (.int .i64 a0_0) := (blk_cell BK210.out 0).trans rfl
      have hcz11_1 : w3.cell? ⟨gb210, 1, none⟩ = some (.int .i64 a0_1) := (blk_cell BK210.out 1).trans rfl
      have hcz11_2 : w3.cell? ⟨gb210, 2, none⟩ = some (.slice A0_2 l0_2.length c0_2) := (blk_cell BK210.out 2).trans rfl
      have hfz11_0 := blk_frozen BK210.out 0
      have hfz11_1 := blk_frozen BK210.out 1
      have hfz11_2 := blk_frozen BK210.out 2
      go_wp2
      go_meet
      case rel => exact ⟨_, (true), (by first | rfl | (simp; done) | (simp [*]; done)), H', ⟨by first | omega | exact Nat.le_refl _⟩, ⟨by (with_reducible repeat (first | refine blk_drewN ?_ _ | refine blk_drew ?_ | refine blk_alloc ?_ _)); exact BK210.out⟩, ⟨by repeat (with_reducible first | exact HB.out | apply pw_below_drewN | apply below_drew1 | refine below_set ?_ GE210.out)⟩⟩
     ·rw [if_neg c10] at H
      have c10b0 : decide (1000000000 < a0_1) = false := decide_eq_false c10
      clear c10
      have H' := Aside0.mk H
      clear H
      have hcz12_0 : w3.cell? ⟨gb210, 0, none⟩ = some (.int .i64 a0_0) := (blk_cell BK210.out 0).trans rfl
      have hcz12_1 : w3.cell? ⟨gb210, 1, none⟩ = some (.int .i64 a0_1) := (blk_cell BK210.out 1).trans rfl
      have hcz12_2 : w3.cell? ⟨gb210, 2, none⟩ = some (.slice A0_2 l0_2.length c0_2) := (blk_cell BK210.out 2).trans rfl
      have hfz12_0 := blk_frozen BK210.out 0
      have hfz12_1 := blk_frozen BK210.out 1
      have hfz12_2 := blk_frozen BK210.out 2
      go_wp2
      go_meet
      case rel => exact ⟨_, (decide ((l0_2.length : Int) > a0_0)), (by first | rfl | (simp; done) | (simp [*]; done)), H', ⟨by first | omega | exact Nat.le_refl _⟩, ⟨by (with_reducible repeat (first | refine blk_drewN ?_ _ | refine blk_drew ?_ | refine blk_alloc ?_ _)); exact BK210.out⟩, ⟨by repeat (with_reducible first | exact HB.out | apply pw_below_drewN | apply below_drew1 | refine below_set ?_ GE210.out)⟩⟩
 case rest =>
  clear HC2
  try clear c1; try clear p2; try clear c3; try clear c4; try clear c4b0; try clear c6; try clear c6b0; try clear c8; try clear c8b0; try clear c10; try clear c10b0; try clear hcz11_0; try clear hcz11_1; try clear hcz11_2; try clear hcz12_0; try clear hcz12_1; try clear hcz12_2; try clear hcz5_0; try clear hcz5_1; try clear hcz5_2; try clear hcz7_0; try clear hcz7_1; try clear hcz7_2; try clear hcz9_0; try clear hcz9_1; try clear hcz9_2; try clear hfz11_0; try clear hfz11_1; try clear hfz11_2; try clear hfz12_0; try clear hfz12_1; try clear hfz12_2; try clear hfz5_0; try clear hfz5_1; try clear hfz5_2; try clear hfz7_0; try clear hfz7_1; try clear hfz7_2; try clear hfz9_0; try clear hfz9_1; try clear hfz9_2
  obtain ⟨kq, x29_1, rfl, HA, HJ1, BK210, HB⟩ := hcut
  cases kq with
  | zero => exact absurd HA.out (by simp [watchmanref08_Is.j0])
  | succ kj1 =>
   have H := HA.out
   clear HA
   simp only [watchmanref08_Is.j0] at H
   by_cases c13 : x29_1 = true
   ·subst c13
    rw [if_pos rfl] at H; try dsimp only at H
    obtain rfl := Option.some.inj H
    go_wp2
    go_ret
    exact ⟨by first | rfl | (simp [errW_none, errW_some] <;> rfl) | (simp [*, errW_none, errW_some] <;> rfl), by repeat (with_reducible first | exact HB.out | apply pw_below_drewN | apply below_drew1 | refine below_set ?_ GE210.out)⟩
   ·replace c13 := Bool.eq_false_iff.mpr c13
    subst c13
    rw [if_neg (show ¬ (false = true) by decide)] at H; try dsimp only at H
    have H' := Aside0.mk H
    clear H
    go_wp2
    go_loopg [3] kj1 (fun kq v3 w' => ∃ (x3_2 : Int), v3 = .int .i64 x3_2 ∧ Aside0 (watchmanref08_Is.l0 kq x3_2 a0_0 a0_1 l0_2 = some r) ∧ Aside0 (kq ≤ kj1) ∧ Aside0 (w'.heap[gb210]? = some (.cells #[.int .i64 a0_0, .int .i64 a0_1, (.slice A0_2 l0_2.length c0_2)] 24 (0, 0))) ∧ Aside0 (Below w.heap.size w w'))
    case atStart => exact ⟨(0), (by first | rfl | (simp; done) | (simp [*]; done)), H', ⟨Nat.le_refl _⟩, ⟨by (with_reducible repeat (first | refine blk_drewN ?_ _ | refine blk_drew ?_ | refine blk_alloc ?_ _)); exact BK210.out⟩, ⟨by repeat (with_reducible first | exact HB.out | apply pw_below_drewN | apply below_drew1 | refine below_set ?_ GE210.out)⟩⟩
    case round =>
     clear H'
     try clear c1; try clear p2; try clear c3; try clear c4; try clear c4b0; try clear c6; try clear c6b0; try clear c8; try clear c8b0; try clear c10; try clear c10b0; try clear c13; try clear hcz11_0; try clear hcz11_1; try clear hcz11_2; try clear hcz12_0; try clear hcz12_1; try clear hcz12_2; try clear hcz5_0; try clear hcz5_1; try clear hcz5_2; try clear hcz7_0; try clear hcz7_1; try clear hcz7_2; try clear hcz9_0; try clear hcz9_1; try clear hcz9_2; try clear hfz11_0; try clear hfz11_1; try clear hfz11_2; try clear hfz12_0; try clear hfz12_1; try clear hfz12_2; try clear hfz5_0; try clear hfz5_1; try clear hfz5_2; try clear hfz7_0; try clear hfz7_1; try clear hfz7_2; try clear hfz9_0; try clear hfz9_1; try clear hfz9_2; try clear p2
     obtain ⟨x3_2, rfl, HA, HK2, BK210, HB⟩ := hrel
     cases gk with
     | zero => exact absurd HA.out (by simp [watchmanref08_Is.l0])
     | succ k2 =>
      have H := HA.out
      clear HA
      simp only [watchmanref08_Is.l0] at H
      by_cases c14 : x3_2 < (l0_2.length : Int)
      ·rw [if_pos c14] at H
       have c14b0 : decide (x3_2 < (l0_2.length : Int)) = true := decide_eq_true c14
       clear c14
       have HC15 := Aside0.mk H
       clear H
       have hcz16_0 : wr.cell? ⟨gb210, 0, none⟩ = some (.int .i64 a0_0) := (blk_cell BK210.out 0).trans rfl
       have hcz16_1 : wr.cell? ⟨gb210, 1, none⟩ = some (.int .i64 a0_1) := (blk_cell BK210.out 1).trans rfl
       have hcz16_2 : wr.cell? ⟨gb210, 2, none⟩ = some (.slice A0_2 l0_2.length c0_2) := (blk_cell BK210.out 2).trans rfl
       have hfz16_0 := blk_frozen BK210.out 0
       have hfz16_1 := blk_frozen BK210.out 1
       have hfz16_2 := blk_frozen BK210.out 2
       go_upto_region 6 with (fail)
       go_cut [75] (fun v75 wc => ∃ (kq : Nat) (x75_14 : Bool), v75 = .bool x75_14 ∧ Aside0 (watchmanref08_Is.j2 kq x3_2 x75_14 a0_0 a0_1 l0_2 = some r) ∧ Aside0 (kq ≤ k2) ∧ Aside0 (wc.heap[gb210]? = some (.cells #[.int .i64 a0_0, .int .i64 a0_1, (.slice A0_2 l0_2.length c0_2)] 24 (0, 0))) ∧ Aside0 (Below w.heap.size w wc))
       case first =>
        have H := HC15.out
        clear HC15
        by_cases c17 : 0 ≤ x3_2
        ·rw [if_pos c17] at H
         have c17b0 : decide (0 ≤ x3_2) = true := decide_eq_true c17
         clear c17
         (first | rw [c17b0] | (simp only [i64_w, i32_w]; rw [c17b0]) | skip)
         replace H := Option.bind_eq_some_iff.mp H
         obtain ⟨t212, A180, H⟩ := H
         try dsimp only at H
         have A18 := Aside0.mk A180
         clear A180
         by_cases c19 : t212 = true
         ·subst c19
          rw [if_pos rfl] at H; try dsimp only at H
          by_cases c20 : ((rd_T28 l0_2 x3_2).f3) > a0_1
          ·rw [if_pos c20] at H
           have c20b0 : decide (a0_1 < ((rd_T28 l0_2 x3_2).f3)) = true := decide_eq_true c20
           clear c20
           have H' := Aside0.mk H
           clear H
           try go_wp2
           replace BK210 := Aside0.mk (blk_drew BK210.out)
           replace HB := Aside0.mk (below_drew1 HB.out)
           have p211 : 0 ≤ (x3_2 : Int) := of_decide_eq_true (by first | (with_reducible assumption) | assumption)
           have q211 : x3_2 < (l0_2.length : Int) := of_decide_eq_true (by first | (with_reducible assumption) | assumption)
           obtain ⟨ad211, e211, hx211_0, hx211_1, hx211_2, hx211_3, hx211_4, hx211_5⟩ := at_T28 HR0_2.out x3_2 p211 q211
           have hw211_5 := hx211_5
           have hw211_4 := hx211_4
           have hw211_3 := hx211_3
           have hw211_2 := hx211_2
           have hw211_1 := hx211_1
           have hw211_0 := hx211_0
           cases e211
           replace hx211_0 := (HB.out.cell (World.block_lt_of_cell? w _ hx211_0)).trans hx211_0
           replace hx211_1 := (HB.out.cell (World.block_lt_of_cell? w _ hx211_1)).trans hx211_1
           replace hx211_2 := (HB.out.cell (World.block_lt_of_cell? w _ hx211_2)).trans hx211_2
           replace hx211_3 := (HB.out.cell (World.block_lt_of_cell? w _ hx211_3)).trans hx211_3
           replace hx211_4 := (HB.out.cell (World.block_lt_of_cell? w _ hx211_4)).trans hx211_4
           replace hx211_5 := (HB.out.cell (World.block_lt_of_cell? w _ hx211_5)).trans hx211_5
           replace p211 := eq_true p211
           replace q211 := eq_true q211
           have p213 : 0 ≤ (x3_2 : Int) := of_decide_eq_true (by first | (with_reducible assumption) | assumption)
           have q213 : x3_2 < (l0_2.length : Int) := of_decide_eq_true (by first | (with_reducible assumption) | assumption)
           obtain ⟨ad213, e213, hx213_0, hx213_1, hx213_2, hx213_3, hx213_4, hx213_5⟩ := at_T28 HR0_2.out x3_2 p213 q213
           have hw213_5 := hx213_5
           have hw213_4 := hx213_4
           have hw213_3 := hx213_3
           have hw213_2 := hx213_2
           have hw213_1 := hx213_1
           have hw213_0 := hx213_0
           obtain rfl : ad211 = ad213 := (by injection e213)
           replace hx213_0 := (HB.out.cell (World.block_lt_of_cell? w _ hx213_0)).trans hx213_0
           replace hx213_1 := (HB.out.cell (World.block_lt_of_cell? w _ hx213_1)).trans hx213_1
           replace hx213_2 := (HB.out.cell (World.block_lt_of_cell? w _ hx213_2)).trans hx213_2
           replace hx213_3 := (HB.out.cell (World.block_lt_of_cell? w _ hx213_3)).trans hx213_3
           replace hx213_4 := (HB.out.cell (World.block_lt_of_cell? w _ hx213_4)).trans hx213_4
           replace hx213_5 := (HB.out.cell (World.block_lt_of_cell? w _ hx213_5)).trans hx213_5
           replace p213 := eq_true p213
           replace q213 := eq_true q213
           refine start_ (n := 39) (S := fun w' => w'.cell? ⟨gb210, 0, none⟩ = some (.int .i64 a0_0) ∧ w'.cell? ⟨gb210, 1, none⟩ = some (.int .i64 a0_1) ∧ w'.cell? ⟨gb210, 2, none⟩ = some (.slice (some ad211) l0_2.length c0_2) ∧ w'.cell? (ad211.add ((x3_2).toNat * 6)) = some (.int .i64 ((rd_T28 l0_2 x3_2).f0.f0)) ∧ w'.cell? ⟨(ad211.add ((x3_2).toNat * 6)).block, (ad211.add ((x3_2).toNat * 6)).off + 1, none⟩ = some (.int .i64 ((rd_T28 l0_2 x3_2).f0.f1)) ∧ w'.cell? ⟨(ad211.add ((x3_2).toNat * 6)).block, (ad211.add ((x3_2).toNat * 6)).off + 2, none⟩ = some (.int .i64 ((rd_T28 l0_2 x3_2).f1)) ∧ w'.cell? ⟨(ad211.add ((x3_2).toNat * 6)).block, (ad211.add ((x3_2).toNat * 6)).off + 3, none⟩ = some (.int .i64 ((rd_T28 l0_2 x3_2).f2)) ∧ w'.cell? ⟨(ad211.add ((x3_2).toNat * 6)).block, (ad211.add ((x3_2).toNat * 6)).off + 4, none⟩ = some (.int .i64 ((rd_T28 l0_2 x3_2).f3)) ∧ w'.cell? ⟨(ad211.add ((x3_2).toNat * 6)).block, (ad211.add ((x3_2).toNat * 6)).off + 5, none⟩ = some (.int .i64 ((rd_T28 l0_2 x3_2).f4)) ∧ w'.cell? (ad211.add ((x3_2).toNat * 6)) = some (.int .i64 ((rd_T28 l0_2 x3_2).f0.f0)) ∧ w'.cell? ⟨(ad211.add ((x3_2).toNat * 6)).block, (ad211.add ((x3_2).toNat * 6)).off + 1, none⟩ = some (.int .i64 ((rd_T28 l0_2 x3_2).f0.f1)) ∧ w'.cell? ⟨(ad211.add ((x3_2).toNat * 6)).block, (ad211.add ((x3_2).toNat * 6)).off + 2, none⟩ = some (.int .i64 ((rd_T28 l0_2 x3_2).f1)) ∧ w'.cell? ⟨(ad211.add ((x3_2).toNat * 6)).block, (ad211.add ((x3_2).toNat * 6)).off + 3, none⟩ = some (.int .i64 ((rd_T28 l0_2 x3_2).f2)) ∧ w'.cell? ⟨(ad211.add ((x3_2).toNat * 6)).block, (ad211.add ((x3_2).toNat * 6)).off + 4, none⟩ = some (.int .i64 ((rd_T28 l0_2 x3_2).f3)) ∧ w'.cell? ⟨(ad211.add ((x3_2).toNat * 6)).block, (ad211.add ((x3_2).toNat * 6)).off + 5, none⟩ = some (.int .i64 ((rd_T28 l0_2 x3_2).f4))) (ds := []) #[false, false, false, false, false, false, false, false, false, false, false, false, false, false, false, false, false, false, false, false, false, false, false, false, false, false, false, false, false, false, false, false, false, false, false, false, false, false, false] (by kernel_rfl) rfl rfl ⟨(blk_cell BK210.out 0).trans rfl, (blk_cell BK210.out 1).trans rfl, (blk_cell BK210.out 2).trans rfl, ((HB.out.cell (World.block_lt_of_cell? w _ hw211_0)).trans hw211_0), ((HB.out.cell (World.block_lt_of_cell? w _ hw211_1)).trans hw211_1), ((HB.out.cell (World.block_lt_of_cell? w _ hw211_2)).trans hw211_2), ((HB.out.cell (World.block_lt_of_cell? w _ hw211_3)).trans hw211_3), ((HB.out.cell (World.block_lt_of_cell? w _ hw211_4)).trans hw211_4), ((HB.out.cell (World.block_lt_of_cell? w _ hw211_5)).trans hw211_5), ((HB.out.cell (World.block_lt_of_cell? w _ hw213_0)).trans hw213_0), ((HB.out.cell (World.block_lt_of_cell? w _ hw213_1)).trans hw213_1), ((HB.out.cell (World.block_lt_of_cell? w _ hw213_2)).trans hw213_2), ((HB.out.cell (World.block_lt_of_cell? w _ hw213_3)).trans hw213_3), ((HB.out.cell (World.block_lt_of_cell? w _ hw213_4)).trans hw213_4), ((HB.out.cell (World.block_lt_of_cell? w _ hw213_5)).trans hw213_5)⟩ (fun hHeld => ?_); refine with_tabW watchmanref08_Is.tab6 watchmanref08_Is.bits6 (fun HT_ HW_ => ?_)
           generalize wr.drew = w21 at BK210 HB hx211_0 hx211_1 hx211_2 hx211_3 hx211_4 hx211_5 hx213_0 hx213_1 hx213_2 hx213_3 hx213_4 hx213_5 hHeld ⊢
           have Q_ := Qs.mk (n := 39) [(0, 0, 37, 1), (0, 2, 39, 5), (2, 1, 38, 7), (0, 3, 40, 15), (2, 4, 41, 31)]
           iterate 5 (first | (obtain ⟨q_, Q_⟩ := Qs.p Q_; refine pureQ_ q_ (v := ?_) (a' := ?_) rfl rfl (any_of HT_.out (by kernel_rfl)) (fun _ _ _ h => h) (Or.inl ⟨by rfl, ?_⟩) ?_ ?_; rotate_left; (intro w'; go_simp; with_reducible rfl); rotate_left; (simp only [Act.put, List.setIfInBounds_toArray, List.set_cons_zero, List.set_cons_succ, i64_w, i32_w]; rfl)) | (obtain ⟨q_, Q_⟩ := Qs.t Q_; refine takeQ_ q_ (v := ?_) (a' := ?_) rfl rfl (take_ofW HT_.out HW_.out (by kernel_rfl)) (fun _ _ _ h => h) (Or.inl ⟨by rfl, ?_⟩) hHeld ?_ ?_; rotate_left; (rintro w' ⟨s0, s1, s2, s3, s4, s5, s6, s7, s8, s9, s10, s11, s12, s13, s14⟩; go_simp; with_reducible rfl); rotate_left; (simp only [Act.put, List.setIfInBounds_toArray, List.set_cons_zero, List.set_cons_succ, i64_w, i32_w]; rfl)))
           clear Q_
           refine one_ (i := 5) (N := some 42) (dn_ 6 39) rfl rfl (one_of HT_.out (by kernel_rfl)) (by decide) (fun K hK => ?_)
           refine goes_ Try.func55 (by kernel_rfl) rfl #[.agg #[.int .i64 ((rd_T28 l0_2 x3_2).f0.f0), .int .i64 ((rd_T28 l0_2 x3_2).f0.f1), .int .i64 ((rd_T28 l0_2 x3_2).f1), .int .i64 ((rd_T28 l0_2 x3_2).f2), .int .i64 ((rd_T28 l0_2 x3_2).f3), .int .i64 ((rd_T28 l0_2 x3_2).f4)]] (by rfl) rfl rfl (by (try simp only [List.map_toArray, List.map_cons, List.map_nil]); first | done | rfl | (simp only [List.length_drop, List.length_take]; rfl)) ?_
           with_reducible refine (watchmanref06_Is.calls ((rd_T28 l0_2 x3_2).f0.f0) ((rd_T28 l0_2 x3_2).f0.f1) ((rd_T28 l0_2 x3_2).f1) ((rd_T28 l0_2 x3_2).f2) ((rd_T28 l0_2 x3_2).f3) ((rd_T28 l0_2 x3_2).f4) true _ A18.out).mono ?_
           rintro e w22 ⟨rfl, hb⟩
           refine ⟨_, rfl, ?_⟩
           replace BK210 := bl_ BK210 hb
           replace HB := Aside0.mk (below_step (by repeat (with_reducible first | exact HB.out | apply pw_below_drewN | apply below_drew1 | refine below_set ?_ GE210.out)) hb)
           (try clear hb)
           (try clear hb2)
           (try clear hk)
           (try clear hi)
           refine hK.out _ _ ⟨(blk_cell BK210.out 0).trans rfl, (blk_cell BK210.out 1).trans rfl, (blk_cell BK210.out 2).trans rfl, ((HB.out.cell (World.block_lt_of_cell? w _ hw211_0)).trans hw211_0), ((HB.out.cell (World.block_lt_of_cell? w _ hw211_1)).trans hw211_1), ((HB.out.cell (World.block_lt_of_cell? w _ hw211_2)).trans hw211_2), ((HB.out.cell (World.block_lt_of_cell? w _ hw211_3)).trans hw211_3), ((HB.out.cell (World.block_lt_of_cell? w _ hw211_4)).trans hw211_4), ((HB.out.cell (World.block_lt_of_cell? w _ hw211_5)).trans hw211_5), ((HB.out.cell (World.block_lt_of_cell? w _ hw213_0)).trans hw213_0), ((HB.out.cell (World.block_lt_of_cell? w _ hw213_1)).trans hw213_1), ((HB.out.cell (World.block_lt_of_cell? w _ hw213_2)).trans hw213_2), ((HB.out.cell (World.block_lt_of_cell? w _ hw213_3)).trans hw213_3), ((HB.out.cell (World.block_lt_of_cell? w _ hw213_4)).trans hw213_4), ((HB.out.cell (World.block_lt_of_cell? w _ hw213_5)).trans hw213_5)⟩ (fun hHeld => ?_)
           clear hK K
           refine norm_ (a' := ?_) ?_ ?_
           rotate_left
           ·show Act.put _ (some 42) _ = _
            simp only [Act.put, List.setIfInBounds_toArray, List.set_cons_zero, List.set_cons_succ, i64_w, i32_w]
            rfl
           have Q_ := Qs.mk (n := 39) [(0, 6, 43, 127), (0, 7, 44, 255), (0, 8, 45, 511), (0, 10, 47, 1535), (0, 14, 51, 17919), (2, 9, 46, 18431), (0, 11, 48, 20479), (0, 12, 49, 24575), (2, 13, 50, 32767), (2, 15, 52, 65535), (0, 16, 53, 131071), (0, 17, 54, 262143), (0, 18, 55, 524287), (1, 19, 56, 1048575), (1, 20, 57, 2097151), (1, 21, 58, 4194303), (1, 22, 59, 8388607), (1, 23, 60, 16777215), (1, 24, 61, 33554431), (1, 25, 62, 67108863), (1, 26, 63, 134217727), (1, 27, 64, 268435455), (1, 28, 65, 536870911), (1, 29, 66, 1073741823), (1, 30, 67, 2147483647), (1, 31, 68, 4294967295), (1, 32, 69, 8589934591), (1, 33, 70, 17179869183), (1, 34, 71, 34359738367), (1, 35, 72, 68719476735), (1, 36, 73, 137438953471), (1, 37, 74, 274877906943), (0, 38, 75, 549755813887)]
           iterate 33 (first | (obtain ⟨q_, Q_⟩ := Qs.p Q_; refine pureQ_ q_ (v := ?_) (a' := ?_) rfl rfl (any_of HT_.out (by kernel_rfl)) (fun _ _ _ h => h) (Or.inl ⟨by rfl, ?_⟩) ?_ ?_; rotate_left; (intro w'; go_simp; with_reducible rfl); rotate_left; (simp only [Act.put, List.setIfInBounds_toArray, List.set_cons_zero, List.set_cons_succ, i64_w, i32_w]; rfl)) | (obtain ⟨q_, Q_⟩ := Qs.u Q_; refine pureQ_ q_ (v := undef) (a' := ?_) rfl rfl (any_of HT_.out (by kernel_rfl)) (fun _ _ _ h => h) (Or.inr ⟨by rfl, rfl⟩) ?_ ?_; rotate_left; (simp only [Act.put, List.setIfInBounds_toArray, List.set_cons_zero, List.set_cons_succ, i64_w, i32_w]; rfl)) | (obtain ⟨q_, Q_⟩ := Qs.t Q_; refine takeQ_ q_ (v := ?_) (a' := ?_) rfl rfl (take_ofW HT_.out HW_.out (by kernel_rfl)) (fun _ _ _ h => h) (Or.inl ⟨by rfl, ?_⟩) hHeld ?_ ?_; rotate_left; (rintro w' ⟨s0, s1, s2, s3, s4, s5, s6, s7, s8, s9, s10, s11, s12, s13, s14⟩; go_simp; with_reducible rfl); rotate_left; (simp only [Act.put, List.setIfInBounds_toArray, List.set_cons_zero, List.set_cons_succ, i64_w, i32_w]; rfl)))
           clear Q_
           refine done_ (done_of HT_.out (by kernel_rfl)) ?_
           try go_wp2
           go_meet
           case rel => exact ⟨_, (true), (by first | rfl | (simp; done) | (simp [*]; done)), H', ⟨by have := HJ1.out; have := HK2.out; first | omega | exact Nat.le_refl _⟩, ⟨by (with_reducible repeat (first | refine blk_drewN ?_ _ | refine blk_drew ?_ | refine blk_alloc ?_ _)); exact BK210.out⟩, ⟨by repeat (with_reducible first | exact HB.out | apply pw_below_drewN | apply below_drew1 | refine below_set ?_ GE210.out)⟩⟩
          ·rw [if_neg c20] at H
           have c20b0 : decide (a0_1 < ((rd_T28 l0_2 x3_2).f3)) = false := decide_eq_false c20
           clear c20
           by_cases c23 : x3_2 > 0
           ·rw [if_pos c23] at H
            have c23b0 : decide (0 < x3_2) = true := decide_eq_true c23
            clear c23
            obtain ⟨ji24, hji24⟩ : ∃ j_ : Int, (wrap64 (x3_2 - 1)) = j_ := ⟨_, rfl⟩
            replace H : (if 0 ≤ (ji24) then (if (ji24) < (l0_2.length : Int) then ((watchmanref04_Less.f ((rd_T28 l0_2 (ji24)).f0.f0) ((rd_T28 l0_2 (ji24)).f0.f1) ((rd_T28 l0_2 x3_2).f0.f0) ((rd_T28 l0_2 x3_2).f0.f1)).bind fun t216 => (watchmanref08_Is.j2 k2 x3_2 (!t216) a0_0 a0_1 l0_2)) else (none)) else (none)) = some r := by first | (rw [hji24] at H; exact H) | (simp only [hji24] at H ⊢; exact H)
            (try rw [hji24] at A18)
            have hji24w : (IntKind.i64.wrap (x3_2 - 1)) = ji24 := (i64_w _).trans hji24
            by_cases c25 : 0 ≤ (ji24)
            ·rw [if_pos c25] at H
             have c25b0 : decide (0 ≤ (ji24)) = true := decide_eq_true c25
             clear c25
             by_cases c26 : (ji24) < (l0_2.length : Int)
             ·rw [if_pos c26] at H
              have c26b0 : decide ((ji24) < (l0_2.length : Int)) = true := decide_eq_true c26
              clear c26
              replace H := Option.bind_eq_some_iff.mp H
              obtain ⟨t216, A270, H⟩ := H
              try dsimp only at H
              have A27 := Aside0.mk A270
              clear A270
              have H' := Aside0.mk H
              clear H
              try go_wp2
              replace BK210 := Aside0.mk (blk_drew BK210.out)
              replace HB := Aside0.mk (below_drew1 HB.out)
              have p211 : 0 ≤ (x3_2 : Int) := of_decide_eq_true (by first | (with_reducible assumption) | assumption)
              have q211 : x3_2 < (l0_2.length : Int) := of_decide_eq_true (by first | (with_reducible assumption) | assumption)
              obtain ⟨ad211, e211, hx211_0, hx211_1, hx211_2, hx211_3, hx211_4, hx211_5⟩ := at_T28 HR0_2.out x3_2 p211 q211
              have hw211_5 := hx211_5
              have hw211_4 := hx211_4
              have hw211_3 := hx211_3
              have hw211_2 := hx211_2
              have hw211_1 := hx211_1
              have hw211_0 := hx211_0
              cases e211
              replace hx211_0 := (HB.out.cell (World.block_lt_of_cell? w _ hx211_0)).trans hx211_0
              replace hx211_1 := (HB.out.cell (World.block_lt_of_cell? w _ hx211_1)).trans hx211_1
              replace hx211_2 := (HB.out.cell (World.block_lt_of_cell? w _ hx211_2)).trans hx211_2
              replace hx211_3 := (HB.out.cell (World.block_lt_of_cell? w _ hx211_3)).trans hx211_3
              replace hx211_4 := (HB.out.cell (World.block_lt_of_cell? w _ hx211_4)).trans hx211_4
              replace hx211_5 := (HB.out.cell (World.block_lt_of_cell? w _ hx211_5)).trans hx211_5
              replace p211 := eq_true p211
              replace q211 := eq_true q211
              have p213 : 0 ≤ (x3_2 : Int) := of_decide_eq_true (by first | (with_reducible assumption) | assumption)
              have q213 : x3_2 < (l0_2.length : Int) := of_decide_eq_true (by first | (with_reducible assumption) | assumption)
              obtain ⟨ad213, e213, hx213_0, hx213_1, hx213_2, hx213_3, hx213_4, hx213_5⟩ := at_T28 HR0_2.out x3_2 p213 q213
              have hw213_5 := hx213_5
              have hw213_4 := hx213_4
              have hw213_3 := hx213_3
              have hw213_2 := hx213_2
              have hw213_1 := hx213_1
              have hw213_0 := hx213_0
              obtain rfl : ad211 = ad213 := (by injection e213)
              replace hx213_0 := (HB.out.cell (World.block_lt_of_cell? w _ hx213_0)).trans hx213_0
              replace hx213_1 := (HB.out.cell (World.block_lt_of_cell? w _ hx213_1)).trans hx213_1
              replace hx213_2 := (HB.out.cell (World.block_lt_of_cell? w _ hx213_2)).trans hx213_2
              replace hx213_3 := (HB.out.cell (World.block_lt_of_cell? w _ hx213_3)).trans hx213_3
              replace hx213_4 := (HB.out.cell (World.block_lt_of_cell? w _ hx213_4)).trans hx213_4
              replace hx213_5 := (HB.out.cell (World.block_lt_of_cell? w _ hx213_5)).trans hx213_5
              replace p213 := eq_true p213
              replace q213 := eq_true q213
              have p214 : 0 ≤ ((ji24) : Int) := of_decide_eq_true (by first | (with_reducible assumption) | assumption)
              have q214 : (ji24) < (l0_2.length : Int) := of_decide_eq_true (by first | (with_reducible assumption) | assumption)
              obtain ⟨ad214, e214, hx214_0, hx214_1, hx214_2, hx214_3, hx214_4, hx214_5⟩ := at_T28 HR0_2.out (ji24) p214 q214
              have hw214_5 := hx214_5
              have hw214_4 := hx214_4
              have hw214_3 := hx214_3
              have hw214_2 := hx214_2
              have hw214_1 := hx214_1
              have hw214_0 := hx214_0
              obtain rfl : ad211 = ad214 := (by injection e214)
              replace hx214_0 := (HB.out.cell (World.block_lt_of_cell? w _ hx214_0)).trans hx214_0
              replace hx214_1 := (HB.out.cell (World.block_lt_of_cell? w _ hx214_1)).trans hx214_1
              replace hx214_2 := (HB.out.cell (World.block_lt_of_cell? w _ hx214_2)).trans hx214_2
              replace hx214_3 := (HB.out.cell (World.block_lt_of_cell? w _ hx214_3)).trans hx214_3
              replace hx214_4 := (HB.out.cell (World.block_lt_of_cell? w _ hx214_4)).trans hx214_4
              replace hx214_5 := (HB.out.cell (World.block_lt_of_cell? w _ hx214_5)).trans hx214_5
              replace p214 := eq_true p214
              replace q214 := eq_true q214
              have p215 : 0 ≤ (x3_2 : Int) := of_decide_eq_true (by first | (with_reducible assumption) | assumption)
              have q215 : x3_2 < (l0_2.length : Int) := of_decide_eq_true (by first | (with_reducible assumption) | assumption)
              obtain ⟨ad215, e215, hx215_0, hx215_1, hx215_2, hx215_3, hx215_4, hx215_5⟩ := at_T28 HR0_2.out x3_2 p215 q215
              have hw215_5 := hx215_5
              have hw215_4 := hx215_4
              have hw215_3 := hx215_3
              have hw215_2 := hx215_2
              have hw215_1 := hx215_1
              have hw215_0 := hx215_0
              obtain rfl : ad211 = ad215 := (by injection e215)
              replace hx215_0 := (HB.out.cell (World.block_lt_of_cell? w _ hx215_0)).trans hx215_0
              replace hx215_1 := (HB.out.cell (World.block_lt_of_cell? w _ hx215_1)).trans hx215_1
              replace hx215_2 := (HB.out.cell (World.block_lt_of_cell? w _ hx215_2)).trans hx215_2
              replace hx215_3 := (HB.out.cell (World.block_lt_of_cell? w _ hx215_3)).trans hx215_3
              replace hx215_4 := (HB.out.cell (World.block_lt_of_cell? w _ hx215_4)).trans hx215_4
              replace hx215_5 := (HB.out.cell (World.block_lt_of_cell? w _ hx215_5)).trans hx215_5
              replace p215 := eq_true p215
              replace q215 := eq_true q215
              refine start_ (n := 39) (S := fun w' => w'.cell? ⟨gb210, 0, none⟩ = some (.int .i64 a0_0) ∧ w'.cell? ⟨gb210, 1, none⟩ = some (.int .i64 a0_1) ∧ w'.cell? ⟨gb210, 2, none⟩ = some (.slice (some ad211) l0_2.length c0_2) ∧ w'.cell? (ad211.add ((x3_2).toNat * 6)) = some (.int .i64 ((rd_T28 l0_2 x3_2).f0.f0)) ∧ w'.cell? ⟨(ad211.add ((x3_2).toNat * 6)).block, (ad211.add ((x3_2).toNat * 6)).off + 1, none⟩ = some (.int .i64 ((rd_T28 l0_2 x3_2).f0.f1)) ∧ w'.cell? ⟨(ad211.add ((x3_2).toNat * 6)).block, (ad211.add ((x3_2).toNat * 6)).off + 2, none⟩ = some (.int .i64 ((rd_T28 l0_2 x3_2).f1)) ∧ w'.cell? ⟨(ad211.add ((x3_2).toNat * 6)).block, (ad211.add ((x3_2).toNat * 6)).off + 3, none⟩ = some (.int .i64 ((rd_T28 l0_2 x3_2).f2)) ∧ w'.cell? ⟨(ad211.add ((x3_2).toNat * 6)).block, (ad211.add ((x3_2).toNat * 6)).off + 4, none⟩ = some (.int .i64 ((rd_T28 l0_2 x3_2).f3)) ∧ w'.cell? ⟨(ad211.add ((x3_2).toNat * 6)).block, (ad211.add ((x3_2).toNat * 6)).off + 5, none⟩ = some (.int .i64 ((rd_T28 l0_2 x3_2).f4)) ∧ w'.cell? (ad211.add ((x3_2).toNat * 6)) = some (.int .i64 ((rd_T28 l0_2 x3_2).f0.f0)) ∧ w'.cell? ⟨(ad211.add ((x3_2).toNat * 6)).block, (ad211.add ((x3_2).toNat * 6)).off + 1, none⟩ = some (.int .i64 ((rd_T28 l0_2 x3_2).f0.f1)) ∧ w'.cell? ⟨(ad211.add ((x3_2).toNat * 6)).block, (ad211.add ((x3_2).toNat * 6)).off + 2, none⟩ = some (.int .i64 ((rd_T28 l0_2 x3_2).f1)) ∧ w'.cell? ⟨(ad211.add ((x3_2).toNat * 6)).block, (ad211.add ((x3_2).toNat * 6)).off + 3, none⟩ = some (.int .i64 ((rd_T28 l0_2 x3_2).f2)) ∧ w'.cell? ⟨(ad211.add ((x3_2).toNat * 6)).block, (ad211.add ((x3_2).toNat * 6)).off + 4, none⟩ = some (.int .i64 ((rd_T28 l0_2 x3_2).f3)) ∧ w'.cell? ⟨(ad211.add ((x3_2).toNat * 6)).block, (ad211.add ((x3_2).toNat * 6)).off + 5, none⟩ = some (.int .i64 ((rd_T28 l0_2 x3_2).f4)) ∧ w'.cell? (ad211.add (((ji24)).toNat * 6)) = some (.int .i64 ((rd_T28 l0_2 (ji24)).f0.f0)) ∧ w'.cell? ⟨(ad211.add (((ji24)).toNat * 6)).block, (ad211.add (((ji24)).toNat * 6)).off + 1, none⟩ = some (.int .i64 ((rd_T28 l0_2 (ji24)).f0.f1)) ∧ w'.cell? ⟨(ad211.add (((ji24)).toNat * 6)).block, (ad211.add (((ji24)).toNat * 6)).off + 2, none⟩ = some (.int .i64 ((rd_T28 l0_2 (ji24)).f1)) ∧ w'.cell? ⟨(ad211.add (((ji24)).toNat * 6)).block, (ad211.add (((ji24)).toNat * 6)).off + 3, none⟩ = some (.int .i64 ((rd_T28 l0_2 (ji24)).f2)) ∧ w'.cell? ⟨(ad211.add (((ji24)).toNat * 6)).block, (ad211.add (((ji24)).toNat * 6)).off + 4, none⟩ = some (.int .i64 ((rd_T28 l0_2 (ji24)).f3)) ∧ w'.cell? ⟨(ad211.add (((ji24)).toNat * 6)).block, (ad211.add (((ji24)).toNat * 6)).off + 5, none⟩ = some (.int .i64 ((rd_T28 l0_2 (ji24)).f4)) ∧ w'.cell? (ad211.add ((x3_2).toNat * 6)) = some (.int .i64 ((rd_T28 l0_2 x3_2).f0.f0)) ∧ w'.cell? ⟨(ad211.add ((x3_2).toNat * 6)).block, (ad211.add ((x3_2).toNat * 6)).off + 1, none⟩ = some (.int .i64 ((rd_T28 l0_2 x3_2).f0.f1)) ∧ w'.cell? ⟨(ad211.add ((x3_2).toNat * 6)).block, (ad211.add ((x3_2).toNat * 6)).off + 2, none⟩ = some (.int .i64 ((rd_T28 l0_2 x3_2).f1)) ∧ w'.cell? ⟨(ad211.add ((x3_2).toNat * 6)).block, (ad211.add ((x3_2).toNat * 6)).off + 3, none⟩ = some (.int .i64 ((rd_T28 l0_2 x3_2).f2)) ∧ w'.cell? ⟨(ad211.add ((x3_2).toNat * 6)).block, (ad211.add ((x3_2).toNat * 6)).off + 4, none⟩ = some (.int .i64 ((rd_T28 l0_2 x3_2).f3)) ∧ w'.cell? ⟨(ad211.add ((x3_2).toNat * 6)).block, (ad211.add ((x3_2).toNat * 6)).off + 5, none⟩ = some (.int .i64 ((rd_T28 l0_2 x3_2).f4))) (ds := []) #[false, false, false, false, false, false, false, false, false, false, false, false, false, false, false, false, false, false, false, false, false, false, false, false, false, false, false, false, false, false, false, false, false, false, false, false, false, false, false] (by kernel_rfl) rfl rfl ⟨(blk_cell BK210.out 0).trans rfl, (blk_cell BK210.out 1).trans rfl, (blk_cell BK210.out 2).trans rfl, ((HB.out.cell (World.block_lt_of_cell? w _ hw211_0)).trans hw211_0), ((HB.out.cell (World.block_lt_of_cell? w _ hw211_1)).trans hw211_1), ((HB.out.cell (World.block_lt_of_cell? w _ hw211_2)).trans hw211_2), ((HB.out.cell (World.block_lt_of_cell? w _ hw211_3)).trans hw211_3), ((HB.out.cell (World.block_lt_of_cell? w _ hw211_4)).trans hw211_4), ((HB.out.cell (World.block_lt_of_cell? w _ hw211_5)).trans hw211_5), ((HB.out.cell (World.block_lt_of_cell? w _ hw213_0)).trans hw213_0), ((HB.out.cell (World.block_lt_of_cell? w _ hw213_1)).trans hw213_1), ((HB.out.cell (World.block_lt_of_cell? w _ hw213_2)).trans hw213_2), ((HB.out.cell (World.block_lt_of_cell? w _ hw213_3)).trans hw213_3), ((HB.out.cell (World.block_lt_of_cell? w _ hw213_4)).trans hw213_4), ((HB.out.cell (World.block_lt_of_cell? w _ hw213_5)).trans hw213_5), ((HB.out.cell (World.block_lt_of_cell? w _ hw214_0)).trans hw214_0), ((HB.out.cell (World.block_lt_of_cell? w _ hw214_1)).trans hw214_1), ((HB.out.cell (World.block_lt_of_cell? w _ hw214_2)).trans hw214_2), ((HB.out.cell (World.block_lt_of_cell? w _ hw214_3)).trans hw214_3), ((HB.out.cell (World.block_lt_of_cell? w _ hw214_4)).trans hw214_4), ((HB.out.cell (World.block_lt_of_cell? w _ hw214_5)).trans hw214_5), ((HB.out.cell (World.block_lt_of_cell? w _ hw215_0)).trans hw215_0), ((HB.out.cell (World.block_lt_of_cell? w _ hw215_1)).trans hw215_1), ((HB.out.cell (World.block_lt_of_cell? w _ hw215_2)).trans hw215_2), ((HB.out.cell (World.block_lt_of_cell? w _ hw215_3)).trans hw215_3), ((HB.out.cell (World.block_lt_of_cell? w _ hw215_4)).trans hw215_4), ((HB.out.cell (World.block_lt_of_cell? w _ hw215_5)).trans hw215_5)⟩ (fun hHeld => ?_); refine with_tabW watchmanref08_Is.tab6 watchmanref08_Is.bits6 (fun HT_ HW_ => ?_)
              generalize wr.drew = w28 at BK210 HB hx211_0 hx211_1 hx211_2 hx211_3 hx211_4 hx211_5 hx213_0 hx213_1 hx213_2 hx213_3 hx213_4 hx213_5 hx214_0 hx214_1 hx214_2 hx214_3 hx214_4 hx214_5 hx215_0 hx215_1 hx215_2 hx215_3 hx215_4 hx215_5 hHeld ⊢
              have Q_ := Qs.mk (n := 39) [(0, 0, 37, 1), (0, 2, 39, 5), (2, 1, 38, 7), (0, 3, 40, 15), (2, 4, 41, 31)]
              iterate 5 (first | (obtain ⟨q_, Q_⟩ := Qs.p Q_; refine pureQ_ q_ (v := ?_) (a' := ?_) rfl rfl (any_of HT_.out (by kernel_rfl)) (fun _ _ _ h => h) (Or.inl ⟨by rfl, ?_⟩) ?_ ?_; rotate_left; (intro w'; go_simp; with_reducible rfl); rotate_left; (simp only [Act.put, List.setIfInBounds_toArray, List.set_cons_zero, List.set_cons_succ, i64_w, i32_w]; rfl)) | (obtain ⟨q_, Q_⟩ := Qs.t Q_; refine takeQ_ q_ (v := ?_) (a' := ?_) rfl rfl (take_ofW HT_.out HW_.out (by kernel_rfl)) (fun _ _ _ h => h) (Or.inl ⟨by rfl, ?_⟩) hHeld ?_ ?_; rotate_left; (rintro w' ⟨s0, s1, s2, s3, s4, s5, s6, s7, s8, s9, s10, s11, s12, s13, s14, s15, s16, s17, s18, s19, s20, s21, s22, s23, s24, s25, s26⟩; go_simp; with_reducible rfl); rotate_left; (simp only [Act.put, List.setIfInBounds_toArray, List.set_cons_zero, List.set_cons_succ, i64_w, i32_w]; rfl)))
              clear Q_
              refine one_ (i := 5) (N := some 42) (dn_ 6 39) rfl rfl (one_of HT_.out (by kernel_rfl)) (by decide) (fun K hK => ?_)
              refine goes_ Try.func55 (by kernel_rfl) rfl #[.agg #[.int .i64 ((rd_T28 l0_2 x3_2).f0.f0), .int .i64 ((rd_T28 l0_2 x3_2).f0.f1), .int .i64 ((rd_T28 l0_2 x3_2).f1), .int .i64 ((rd_T28 l0_2 x3_2).f2), .int .i64 ((rd_T28 l0_2 x3_2).f3), .int .i64 ((rd_T28 l0_2 x3_2).f4)]] (by rfl) rfl rfl (by (try simp only [List.map_toArray, List.map_cons, List.map_nil]); first | done | rfl | (simp only [List.length_drop, List.length_take]; rfl)) ?_
              with_reducible refine (watchmanref06_Is.calls ((rd_T28 l0_2 x3_2).f0.f0) ((rd_T28 l0_2 x3_2).f0.f1) ((rd_T28 l0_2 x3_2).f1) ((rd_T28 l0_2 x3_2).f2) ((rd_T28 l0_2 x3_2).f3) ((rd_T28 l0_2 x3_2).f4) true _ A18.out).mono ?_
              rintro e w29 ⟨rfl, hb⟩
              refine ⟨_, rfl, ?_⟩
              replace BK210 := bl_ BK210 hb
              replace HB := Aside0.mk (below_step (by repeat (with_reducible first | exact HB.out | apply pw_below_drewN | apply below_drew1 | refine below_set ?_ GE210.out)) hb)
              (try clear hb)
              (try clear hb2)
              (try clear hk)
              (try clear hi)
              refine hK.out _ _ ⟨(blk_cell BK210.out 0).trans rfl, (blk_cell BK210.out 1).trans rfl, (blk_cell BK210.out 2).trans rfl, ((HB.out.cell (World.block_lt_of_cell? w _ hw211_0)).trans hw211_0), ((HB.out.cell (World.block_lt_of_cell? w _ hw211_1)).trans hw211_1), ((HB.out.cell (World.block_lt_of_cell? w _ hw211_2)).trans hw211_2), ((HB.out.cell (World.block_lt_of_cell? w _ hw211_3)).trans hw211_3), ((HB.out.cell (World.block_lt_of_cell? w _ hw211_4)).trans hw211_4), ((HB.out.cell (World.block_lt_of_cell? w _ hw211_5)).trans hw211_5), ((HB.out.cell (World.block_lt_of_cell? w _ hw213_0)).trans hw213_0), ((HB.out.cell (World.block_lt_of_cell? w _ hw213_1)).trans hw213_1), ((HB.out.cell (World.block_lt_of_cell? w _ hw213_2)).trans hw213_2), ((HB.out.cell (World.block_lt_of_cell? w _ hw213_3)).trans hw213_3), ((HB.out.cell (World.block_lt_of_cell? w _ hw213_4)).trans hw213_4), ((HB.out.cell (World.block_lt_of_cell? w _ hw213_5)).trans hw213_5), ((HB.out.cell (World.block_lt_of_cell? w _ hw214_0)).trans hw214_0), ((HB.out.cell (World.block_lt_of_cell? w _ hw214_1)).trans hw214_1), ((HB.out.cell (World.block_lt_of_cell? w _ hw214_2)).trans hw214_2), ((HB.out.cell (World.block_lt_of_cell? w _ hw214_3)).trans hw214_3), ((HB.out.cell (World.block_lt_of_cell? w _ hw214_4)).trans hw214_4), ((HB.out.cell (World.block_lt_of_cell? w _ hw214_5)).trans hw214_5), ((HB.out.cell (World.block_lt_of_cell? w _ hw215_0)).trans hw215_0), ((HB.out.cell (World.block_lt_of_cell? w _ hw215_1)).trans hw215_1), ((HB.out.cell (World.block_lt_of_cell? w _ hw215_2)).trans hw215_2), ((HB.out.cell (World.block_lt_of_cell? w _ hw215_3)).trans hw215_3), ((HB.out.cell (World.block_lt_of_cell? w _ hw215_4)).trans hw215_4), ((HB.out.cell (World.block_lt_of_cell? w _ hw215_5)).trans hw215_5)⟩ (fun hHeld => ?_)
              clear hK K
              refine norm_ (a' := ?_) ?_ ?_
              rotate_left
              ·show Act.put _ (some 42) _ = _
               simp only [Act.put, List.setIfInBounds_toArray, List.set_cons_zero, List.set_cons_succ, i64_w, i32_w]
               rfl
              have Q_ := Qs.mk (n := 39) [(0, 6, 43, 127), (0, 7, 44, 255), (0, 8, 45, 511), (0, 10, 47, 1535), (0, 14, 51, 17919), (2, 9, 46, 18431), (0, 11, 48, 20479), (0, 12, 49, 24575), (2, 13, 50, 32767), (2, 15, 52, 65535), (0, 16, 53, 131071), (0, 17, 54, 262143), (0, 18, 55, 524287), (0, 19, 56, 1048575), (0, 20, 57, 2097151), (0, 21, 58, 4194303), (0, 22, 59, 8388607), (0, 24, 61, 25165823), (0, 25, 62, 58720255), (0, 29, 66, 595591167), (0, 31, 68, 2743074815), (2, 23, 60, 2751463423), (0, 26, 63, 2818572287), (0, 27, 64, 2952790015), (2, 28, 65, 3221225471), (2, 30, 67, 4294967295), (0, 32, 69, 8589934591), (0, 33, 70, 17179869183), (2, 34, 71, 34359738367)]
              iterate 29 (first | (obtain ⟨q_, Q_⟩ := Qs.p Q_; refine pureQ_ q_ (v := ?_) (a' := ?_) rfl rfl (any_of HT_.out (by kernel_rfl)) (fun _ _ _ h => h) (Or.inl ⟨by rfl, ?_⟩) ?_ ?_; rotate_left; (intro w'; go_simp; with_reducible rfl); rotate_left; (simp only [Act.put, List.setIfInBounds_toArray, List.set_cons_zero, List.set_cons_succ, i64_w, i32_w]; rfl)) | (obtain ⟨q_, Q_⟩ := Qs.t Q_; refine takeQ_ q_ (v := ?_) (a' := ?_) rfl rfl (take_ofW HT_.out HW_.out (by kernel_rfl)) (fun _ _ _ h => h) (Or.inl ⟨by rfl, ?_⟩) hHeld ?_ ?_; rotate_left; (rintro w' ⟨s0, s1, s2, s3, s4, s5, s6, s7, s8, s9, s10, s11, s12, s13, s14, s15, s16, s17, s18, s19, s20, s21, s22, s23, s24, s25, s26⟩; go_simp; with_reducible rfl); rotate_left; (simp only [Act.put, List.setIfInBounds_toArray, List.set_cons_zero, List.set_cons_succ, i64_w, i32_w]; rfl)))
              clear Q_
              refine one_ (i := 35) (N := some 72) (dn_ 36 39) rfl rfl (one_of HT_.out (by kernel_rfl)) (by decide) (fun K hK => ?_)
              refine goes_ Try.func56 (by kernel_rfl) rfl #[.agg #[.int .i64 ((rd_T28 l0_2 (ji24)).f0.f0), .int .i64 ((rd_T28 l0_2 (ji24)).f0.f1)], .agg #[.int .i64 ((rd_T28 l0_2 x3_2).f0.f0), .int .i64 ((rd_T28 l0_2 x3_2).f0.f1)]] (by rfl) rfl rfl (by (try simp only [List.map_toArray, List.map_cons, List.map_nil]); first | done | (simp only [hji24]; rfl) | rfl | (simp only [List.length_drop, List.length_take]; rfl)) ?_
              with_reducible refine (watchmanref04_Less.calls ((rd_T28 l0_2 (ji24)).f0.f0) ((rd_T28 l0_2 (ji24)).f0.f1) ((rd_T28 l0_2 x3_2).f0.f0) ((rd_T28 l0_2 x3_2).f0.f1) t216 _ A27.out).mono ?_
              rintro e w30 ⟨rfl, hb⟩
              refine ⟨_, rfl, ?_⟩
              replace BK210 := bl_ BK210 hb
              replace HB := Aside0.mk (below_step (by repeat (with_reducible first | exact HB.out | apply pw_below_drewN | apply below_drew1 | refine below_set ?_ GE210.out)) hb)
              (try clear hb)
              (try clear hb2)
              (try clear hk)
              (try clear hi)
              refine hK.out _ _ ⟨(blk_cell BK210.out 0).trans rfl, (blk_cell BK210.out 1).trans rfl, (blk_cell BK210.out 2).trans rfl, ((HB.out.cell (World.block_lt_of_cell? w _ hw211_0)).trans hw211_0), ((HB.out.cell (World.block_lt_of_cell? w _ hw211_1)).trans hw211_1), ((HB.out.cell (World.block_lt_of_cell? w _ hw211_2)).trans hw211_2), ((HB.out.cell (World.block_lt_of_cell? w _ hw211_3)).trans hw211_3), ((HB.out.cell (World.block_lt_of_cell? w _ hw211_4)).trans hw211_4), ((HB.out.cell (World.block_lt_of_cell? w _ hw211_5)).trans hw211_5), ((HB.out.cell (World.block_lt_of_cell? w _ hw213_0)).trans hw213_0), ((HB.out.cell (World.block_lt_of_cell? w _ hw213_1)).trans hw213_1), ((HB.out.cell (World.block_lt_of_cell? w _ hw213_2)).trans hw213_2), ((HB.out.cell (World.block_lt_of_cell? w _ hw213_3)).trans hw213_3), ((HB.out.cell (World.block_lt_of_cell? w _ hw213_4)).trans hw213_4), ((HB.out.cell (World.block_lt_of_cell? w _ hw213_5)).trans hw213_5), ((HB.out.cell (World.block_lt_of_cell? w _ hw214_0)).trans hw214_0), ((HB.out.cell (World.block_lt_of_cell? w _ hw214_1)).trans hw214_1), ((HB.out.cell (World.block_lt_of_cell? w _ hw214_2)).trans hw214_2), ((HB.out.cell (World.block_lt_of_cell? w _ hw214_3)).trans hw214_3), ((HB.out.cell (World.block_lt_of_cell? w _ hw214_4)).trans hw214_4), ((HB.out.cell (World.block_lt_of_cell? w _ hw214_5)).trans hw214_5), ((HB.out.cell (World.block_lt_of_cell? w _ hw215_0)).trans hw215_0), ((HB.out.cell (World.block_lt_of_cell? w _ hw215_1)).trans hw215_1), ((HB.out.cell (World.block_lt_of_cell? w _ hw215_2)).trans hw215_2), ((HB.out.cell (World.block_lt_of_cell? w _ hw215_3)).trans hw215_3), ((HB.out.cell (World.block_lt_of_cell? w _ hw215_4)).trans hw215_4), ((HB.out.cell (World.block_lt_of_cell? w _ hw215_5)).trans hw215_5)⟩ (fun hHeld => ?_)
              clear hK K
              refine norm_ (a' := ?_) ?_ ?_
              rotate_left
              ·show Act.put _ (some 72) _ = _
               simp only [Act.put, List.setIfInBounds_toArray, List.set_cons_zero, List.set_cons_succ, i64_w, i32_w]
               rfl
              have Q_ := Qs.mk (n := 39) [(0, 36, 73, 137438953471), (0, 37, 74, 274877906943), (0, 38, 75, 549755813887)]
              iterate 3 (first | (obtain ⟨q_, Q_⟩ := Qs.p Q_; refine pureQ_ q_ (v := ?_) (a' := ?_) rfl rfl (any_of HT_.out (by kernel_rfl)) (fun _ _ _ h => h) (Or.inl ⟨by rfl, ?_⟩) ?_ ?_; rotate_left; (intro w'; go_simp; with_reducible rfl); rotate_left; (simp only [Act.put, List.setIfInBounds_toArray, List.set_cons_zero, List.set_cons_succ, i64_w, i32_w]; rfl)))
              clear Q_
              refine done_ (done_of HT_.out (by kernel_rfl)) ?_
              try go_wp2
              go_meet
              case rel => exact ⟨_, (!t216), (by first | rfl | (simp; done) | (simp [*]; done)), H', ⟨by have := HJ1.out; have := HK2.out; first | omega | exact Nat.le_refl _⟩, ⟨by (with_reducible repeat (first | refine blk_drewN ?_ _ | refine blk_drew ?_ | refine blk_alloc ?_ _)); exact BK210.out⟩, ⟨by repeat (with_reducible first | exact HB.out | apply pw_below_drewN | apply below_drew1 | refine below_set ?_ GE210.out)⟩⟩
             ·rw [if_neg c26] at H
              exact absurd H (by simp)
            ·rw [if_neg c25] at H
             exact absurd H (by simp)
           ·rw [if_neg c23] at H
            have c23b0 : decide (0 < x3_2) = false := decide_eq_false c23
            clear c23
            have H' := Aside0.mk H
            clear H
            try go_wp2
            replace BK210 := Aside0.mk (blk_drew BK210.out)
            replace HB := Aside0.mk (below_drew1 HB.out)
            have p211 : 0 ≤ (x3_2 : Int) := of_decide_eq_true (by first | (with_reducible assumption) | assumption)
            have q211 : x3_2 < (l0_2.length : Int) := of_decide_eq_true (by first | (with_reducible assumption) | assumption)
            obtain ⟨ad211, e211, hx211_0, hx211_1, hx211_2, hx211_3, hx211_4, hx211_5⟩ := at_T28 HR0_2.out x3_2 p211 q211
            have hw211_5 := hx211_5
            have hw211_4 := hx211_4
            have hw211_3 := hx211_3
            have hw211_2 := hx211_2
            have hw211_1 := hx211_1
            have hw211_0 := hx211_0
            cases e211
            replace hx211_0 := (HB.out.cell (World.block_lt_of_cell? w _ hx211_0)).trans hx211_0
            replace hx211_1 := (HB.out.cell (World.block_lt_of_cell? w _ hx211_1)).trans hx211_1
            replace hx211_2 := (HB.out.cell (World.block_lt_of_cell? w _ hx211_2)).trans hx211_2
            replace hx211_3 := (HB.out.cell (World.block_lt_of_cell? w _ hx211_3)).trans hx211_3
            replace hx211_4 := (HB.out.cell (World.block_lt_of_cell? w _ hx211_4)).trans hx211_4
            replace hx211_5 := (HB.out.cell (World.block_lt_of_cell? w _ hx211_5)).trans hx211_5
            replace p211 := eq_true p211
            replace q211 := eq_true q211
            have p213 : 0 ≤ (x3_2 : Int) := of_decide_eq_true (by first | (with_reducible assumption) | assumption)
            have q213 : x3_2 < (l0_2.length : Int) := of_decide_eq_true (by first | (with_reducible assumption) | assumption)
            obtain ⟨ad213, e213, hx213_0, hx213_1, hx213_2, hx213_3, hx213_4, hx213_5⟩ := at_T28 HR0_2.out x3_2 p213 q213
            have hw213_5 := hx213_5
            have hw213_4 := hx213_4
            have hw213_3 := hx213_3
            have hw213_2 := hx213_2
            have hw213_1 := hx213_1
            have hw213_0 := hx213_0
            obtain rfl : ad211 = ad213 := (by injection e213)
            replace hx213_0 := (HB.out.cell (World.block_lt_of_cell? w _ hx213_0)).trans hx213_0
            replace hx213_1 := (HB.out.cell (World.block_lt_of_cell? w _ hx213_1)).trans hx213_1
            replace hx213_2 := (HB.out.cell (World.block_lt_of_cell? w _ hx213_2)).trans hx213_2
            replace hx213_3 := (HB.out.cell (World.block_lt_of_cell? w _ hx213_3)).trans hx213_3
            replace hx213_4 := (HB.out.cell (World.block_lt_of_cell? w _ hx213_4)).trans hx213_4
            replace hx213_5 := (HB.out.cell (World.block_lt_of_cell? w _ hx213_5)).trans hx213_5
            replace p213 := eq_true p213
            replace q213 := eq_true q213
            refine start_ (n := 39) (S := fun w' => w'.cell? ⟨gb210, 0, none⟩ = some (.int .i64 a0_0) ∧ w'.cell? ⟨gb210, 1, none⟩ = some (.int .i64 a0_1) ∧ w'.cell? ⟨gb210, 2, none⟩ = some (.slice (some ad211) l0_2.length c0_2) ∧ w'.cell? (ad211.add ((x3_2).toNat * 6)) = some (.int .i64 ((rd_T28 l0_2 x3_2).f0.f0)) ∧ w'.cell? ⟨(ad211.add ((x3_2).toNat * 6)).block, (ad211.add ((x3_2).toNat * 6)).off + 1, none⟩ = some (.int .i64 ((rd_T28 l0_2 x3_2).f0.f1)) ∧ w'.cell? ⟨(ad211.add ((x3_2).toNat * 6)).block, (ad211.add ((x3_2).toNat * 6)).off + 2, none⟩ = some (.int .i64 ((rd_T28 l0_2 x3_2).f1)) ∧ w'.cell? ⟨(ad211.add ((x3_2).toNat * 6)).block, (ad211.add ((x3_2).toNat * 6)).off + 3, none⟩ = some (.int .i64 ((rd_T28 l0_2 x3_2).f2)) ∧ w'.cell? ⟨(ad211.add ((x3_2).toNat * 6)).block, (ad211.add ((x3_2).toNat * 6)).off + 4, none⟩ = some (.int .i64 ((rd_T28 l0_2 x3_2).f3)) ∧ w'.cell? ⟨(ad211.add ((x3_2).toNat * 6)).block, (ad211.add ((x3_2).toNat * 6)).off + 5, none⟩ = some (.int .i64 ((rd_T28 l0_2 x3_2).f4)) ∧ w'.cell? (ad211.add ((x3_2).toNat * 6)) = some (.int .i64 ((rd_T28 l0_2 x3_2).f0.f0)) ∧ w'.cell? ⟨(ad211.add ((x3_2).toNat * 6)).block, (ad211.add ((x3_2).toNat * 6)).off + 1, none⟩ = some (.int .i64 ((rd_T28 l0_2 x3_2).f0.f1)) ∧ w'.cell? ⟨(ad211.add ((x3_2).toNat * 6)).block, (ad211.add ((x3_2).toNat * 6)).off + 2, none⟩ = some (.int .i64 ((rd_T28 l0_2 x3_2).f1)) ∧ w'.cell? ⟨(ad211.add ((x3_2).toNat * 6)).block, (ad211.add ((x3_2).toNat * 6)).off + 3, none⟩ = some (.int .i64 ((rd_T28 l0_2 x3_2).f2)) ∧ w'.cell? ⟨(ad211.add ((x3_2).toNat * 6)).block, (ad211.add ((x3_2).toNat * 6)).off + 4, none⟩ = some (.int .i64 ((rd_T28 l0_2 x3_2).f3)) ∧ w'.cell? ⟨(ad211.add ((x3_2).toNat * 6)).block, (ad211.add ((x3_2).toNat * 6)).off + 5, none⟩ = some (.int .i64 ((rd_T28 l0_2 x3_2).f4))) (ds := []) #[false, false, false, false, false, false, false, false, false, false, false, false, false, false, false, false, false, false, false, false, false, false, false, false, false, false, false, false, false, false, false, false, false, false, false, false, false, false, false] (by kernel_rfl) rfl rfl ⟨(blk_cell BK210.out 0).trans rfl, (blk_cell BK210.out 1).trans rfl, (blk_cell BK210.out 2).trans rfl, ((HB.out.cell (World.block_lt_of_cell? w _ hw211_0)).trans hw211_0), ((HB.out.cell (World.block_lt_of_cell? w _ hw211_1)).trans hw211_1), ((HB.out.cell (World.block_lt_of_cell? w _ hw211_2)).trans hw211_2), ((HB.out.cell (World.block_lt_of_cell? w _ hw211_3)).trans hw211_3), ((HB.out.cell (World.block_lt_of_cell? w _ hw211_4)).trans hw211_4), ((HB.out.cell (World.block_lt_of_cell? w _ hw211_5)).trans hw211_5), ((HB.out.cell (World.block_lt_of_cell? w _ hw213_0)).trans hw213_0), ((HB.out.cell (World.block_lt_of_cell? w _ hw213_1)).trans hw213_1), ((HB.out.cell (World.block_lt_of_cell? w _ hw213_2)).trans hw213_2), ((HB.out.cell (World.block_lt_of_cell? w _ hw213_3)).trans hw213_3), ((HB.out.cell (World.block_lt_of_cell? w _ hw213_4)).trans hw213_4), ((HB.out.cell (World.block_lt_of_cell? w _ hw213_5)).trans hw213_5)⟩ (fun hHeld => ?_); refine with_tabW watchmanref08_Is.tab6 watchmanref08_Is.bits6 (fun HT_ HW_ => ?_)
            generalize wr.drew = w31 at BK210 HB hx211_0 hx211_1 hx211_2 hx211_3 hx211_4 hx211_5 hx213_0 hx213_1 hx213_2 hx213_3 hx213_4 hx213_5 hHeld ⊢
            have Q_ := Qs.mk (n := 39) [(0, 0, 37, 1), (0, 2, 39, 5), (2, 1, 38, 7), (0, 3, 40, 15), (2, 4, 41, 31)]
            iterate 5 (first | (obtain ⟨q_, Q_⟩ := Qs.p Q_; refine pureQ_ q_ (v := ?_) (a' := ?_) rfl rfl (any_of HT_.out (by kernel_rfl)) (fun _ _ _ h => h) (Or.inl ⟨by rfl, ?_⟩) ?_ ?_; rotate_left; (intro w'; go_simp; with_reducible rfl); rotate_left; (simp only [Act.put, List.setIfInBounds_toArray, List.set_cons_zero, List.set_cons_succ, i64_w, i32_w]; rfl)) | (obtain ⟨q_, Q_⟩ := Qs.t Q_; refine takeQ_ q_ (v := ?_) (a' := ?_) rfl rfl (take_ofW HT_.out HW_.out (by kernel_rfl)) (fun _ _ _ h => h) (Or.inl ⟨by rfl, ?_⟩) hHeld ?_ ?_; rotate_left; (rintro w' ⟨s0, s1, s2, s3, s4, s5, s6, s7, s8, s9, s10, s11, s12, s13, s14⟩; go_simp; with_reducible rfl); rotate_left; (simp only [Act.put, List.setIfInBounds_toArray, List.set_cons_zero, List.set_cons_succ, i64_w, i32_w]; rfl)))
            clear Q_
            refine one_ (i := 5) (N := some 42) (dn_ 6 39) rfl rfl (one_of HT_.out (by kernel_rfl)) (by decide) (fun K hK => ?_)
            refine goes_ Try.func55 (by kernel_rfl) rfl #[.agg #[.int .i64 ((rd_T28 l0_2 x3_2).f0.f0), .int .i64 ((rd_T28 l0_2 x3_2).f0.f1), .int .i64 ((rd_T28 l0_2 x3_2).f1), .int .i64 ((rd_T28 l0_2 x3_2).f2), .int .i64 ((rd_T28 l0_2 x3_2).f3), .int .i64 ((rd_T28 l0_2 x3_2).f4)]] (by rfl) rfl rfl (by (try simp only [List.map_toArray, List.map_cons, List.map_nil]); first | done | rfl | (simp only [List.length_drop, List.length_take]; rfl)) ?_
            with_reducible refine (watchmanref06_Is.calls ((rd_T28 l0_2 x3_2).f0.f0) ((rd_T28 l0_2 x3_2).f0.f1) ((rd_T28 l0_2 x3_2).f1) ((rd_T28 l0_2 x3_2).f2) ((rd_T28 l0_2 x3_2).f3) ((rd_T28 l0_2 x3_2).f4) true _ A18.out).mono ?_
            rintro e w32 ⟨rfl, hb⟩
            refine ⟨_, rfl, ?_⟩
            replace BK210 := bl_ BK210 hb
            replace HB := Aside0.mk (below_step (by repeat (with_reducible first | exact HB.out | apply pw_below_drewN | apply below_drew1 | refine below_set ?_ GE210.out)) hb)
            (try clear hb)
            (try clear hb2)
            (try clear hk)
            (try clear hi)
            refine hK.out _ _ ⟨(blk_cell BK210.out 0).trans rfl, (blk_cell BK210.out 1).trans rfl, (blk_cell BK210.out 2).trans rfl, ((HB.out.cell (World.block_lt_of_cell? w _ hw211_0)).trans hw211_0), ((HB.out.cell (World.block_lt_of_cell? w _ hw211_1)).trans hw211_1), ((HB.out.cell (World.block_lt_of_cell? w _ hw211_2)).trans hw211_2), ((HB.out.cell (World.block_lt_of_cell? w _ hw211_3)).trans hw211_3), ((HB.out.cell (World.block_lt_of_cell? w _ hw211_4)).trans hw211_4), ((HB.out.cell (World.block_lt_of_cell? w _ hw211_5)).trans hw211_5), ((HB.out.cell (World.block_lt_of_cell? w _ hw213_0)).trans hw213_0), ((HB.out.cell (World.block_lt_of_cell? w _ hw213_1)).trans hw213_1), ((HB.out.cell (World.block_lt_of_cell? w _ hw213_2)).trans hw213_2), ((HB.out.cell (World.block_lt_of_cell? w _ hw213_3)).trans hw213_3), ((HB.out.cell (World.block_lt_of_cell? w _ hw213_4)).trans hw213_4), ((HB.out.cell (World.block_lt_of_cell? w _ hw213_5)).trans hw213_5)⟩ (fun hHeld => ?_)
            clear hK K
            refine norm_ (a' := ?_) ?_ ?_
            rotate_left
            ·show Act.put _ (some 42) _ = _
             simp only [Act.put, List.setIfInBounds_toArray, List.set_cons_zero, List.set_cons_succ, i64_w, i32_w]
             rfl
            have Q_ := Qs.mk (n := 39) [(0, 6, 43, 127), (0, 7, 44, 255), (0, 8, 45, 511), (0, 10, 47, 1535), (0, 14, 51, 17919), (2, 9, 46, 18431), (0, 11, 48, 20479), (0, 12, 49, 24575), (2, 13, 50, 32767), (2, 15, 52, 65535), (0, 16, 53, 131071), (0, 17, 54, 262143), (0, 18, 55, 524287), (0, 19, 56, 1048575), (0, 20, 57, 2097151), (0, 21, 58, 4194303), (1, 22, 59, 8388607), (1, 23, 60, 16777215), (1, 24, 61, 33554431), (1, 25, 62, 67108863), (1, 26, 63, 134217727), (1, 27, 64, 268435455), (1, 28, 65, 536870911), (1, 29, 66, 1073741823), (1, 30, 67, 2147483647), (1, 31, 68, 4294967295), (1, 32, 69, 8589934591), (1, 33, 70, 17179869183), (1, 34, 71, 34359738367), (1, 35, 72, 68719476735), (1, 36, 73, 137438953471), (0, 37, 74, 274877906943), (0, 38, 75, 549755813887)]
            iterate 33 (first | (obtain ⟨q_, Q_⟩ := Qs.p Q_; refine pureQ_ q_ (v := ?_) (a' := ?_) rfl rfl (any_of HT_.out (by kernel_rfl)) (fun _ _ _ h => h) (Or.inl ⟨by rfl, ?_⟩) ?_ ?_; rotate_left; (intro w'; go_simp; with_reducible rfl); rotate_left; (simp only [Act.put, List.setIfInBounds_toArray, List.set_cons_zero, List.set_cons_succ, i64_w, i32_w]; rfl)) | (obtain ⟨q_, Q_⟩ := Qs.u Q_; refine pureQ_ q_ (v := undef) (a' := ?_) rfl rfl (any_of HT_.out (by kernel_rfl)) (fun _ _ _ h => h) (Or.inr ⟨by rfl, rfl⟩) ?_ ?_; rotate_left; (simp only [Act.put, List.setIfInBounds_toArray, List.set_cons_zero, List.set_cons_succ, i64_w, i32_w]; rfl)) | (obtain ⟨q_, Q_⟩ := Qs.t Q_; refine takeQ_ q_ (v := ?_) (a' := ?_) rfl rfl (take_ofW HT_.out HW_.out (by kernel_rfl)) (fun _ _ _ h => h) (Or.inl ⟨by rfl, ?_⟩) hHeld ?_ ?_; rotate_left; (rintro w' ⟨s0, s1, s2, s3, s4, s5, s6, s7, s8, s9, s10, s11, s12, s13, s14⟩; go_simp; with_reducible rfl); rotate_left; (simp only [Act.put, List.setIfInBounds_toArray, List.set_cons_zero, List.set_cons_succ, i64_w, i32_w]; rfl)))
            clear Q_
            refine done_ (done_of HT_.out (by kernel_rfl)) ?_
            try go_wp2
            go_meet
            case rel => exact ⟨_, (false), (by first | rfl | (simp; done) | (simp [*]; done)), H', ⟨by have := HJ1.out; have := HK2.out; first | omega | exact Nat.le_refl _⟩, ⟨by (with_reducible repeat (first | refine blk_drewN ?_ _ | refine blk_drew ?_ | refine blk_alloc ?_ _)); exact BK210.out⟩, ⟨by repeat (with_reducible first | exact HB.out | apply pw_below_drewN | apply below_drew1 | refine below_set ?_ GE210.out)⟩⟩
         ·replace c19 := Bool.eq_false_iff.mpr c19
          subst c19
          rw [if_neg (show ¬ (false = true) by decide)] at H; try dsimp only at H
          have H' := Aside0.mk H
          clear H
          try go_wp2
          replace BK210 := Aside0.mk (blk_drew BK210.out)
          replace HB := Aside0.mk (below_drew1 HB.out)
          have p211 : 0 ≤ (x3_2 : Int) := of_decide_eq_true (by first | (with_reducible assumption) | assumption)
          have q211 : x3_2 < (l0_2.length : Int) := of_decide_eq_true (by first | (with_reducible assumption) | assumption)
          obtain ⟨ad211, e211, hx211_0, hx211_1, hx211_2, hx211_3, hx211_4, hx211_5⟩ := at_T28 HR0_2.out x3_2 p211 q211
          have hw211_5 := hx211_5
          have hw211_4 := hx211_4
          have hw211_3 := hx211_3
          have hw211_2 := hx211_2
          have hw211_1 := hx211_1
          have hw211_0 := hx211_0
          cases e211
          replace hx211_0 := (HB.out.cell (World.block_lt_of_cell? w _ hx211_0)).trans hx211_0
          replace hx211_1 := (HB.out.cell (World.block_lt_of_cell? w _ hx211_1)).trans hx211_1
          replace hx211_2 := (HB.out.cell (World.block_lt_of_cell? w _ hx211_2)).trans hx211_2
          replace hx211_3 := (HB.out.cell (World.block_lt_of_cell? w _ hx211_3)).trans hx211_3
          replace hx211_4 := (HB.out.cell (World.block_lt_of_cell? w _ hx211_4)).trans hx211_4
          replace hx211_5 := (HB.out.cell (World.block_lt_of_cell? w _ hx211_5)).trans hx211_5
          replace p211 := eq_true p211
          replace q211 := eq_true q211
          refine start_ (n := 39) (S := fun w' => w'.cell? ⟨gb210, 0, none⟩ = some (.int .i64 a0_0) ∧ w'.cell? ⟨gb210, 1, none⟩ = some (.int .i64 a0_1) ∧ w'.cell? ⟨gb210, 2, none⟩ = some (.slice (some ad211) l0_2.length c0_2) ∧ w'.cell? (ad211.add ((x3_2).toNat * 6)) = some (.int .i64 ((rd_T28 l0_2 x3_2).f0.f0)) ∧ w'.cell? ⟨(ad211.add ((x3_2).toNat * 6)).block, (ad211.add ((x3_2).toNat * 6)).off + 1, none⟩ = some (.int .i64 ((rd_T28 l0_2 x3_2).f0.f1)) ∧ w'.cell? ⟨(ad211.add ((x3_2).toNat * 6)).block, (ad211.add ((x3_2).toNat * 6)).off + 2, none⟩ = some (.int .i64 ((rd_T28 l0_2 x3_2).f1)) ∧ w'.cell? ⟨(ad211.add ((x3_2).toNat * 6)).block, (ad211.add ((x3_2).toNat * 6)).off + 3, none⟩ = some (.int .i64 ((rd_T28 l0_2 x3_2).f2)) ∧ w'.cell? ⟨(ad211.add ((x3_2).toNat * 6)).block, (ad211.add ((x3_2).toNat * 6)).off + 4, none⟩ = some (.int .i64 ((rd_T28 l0_2 x3_2).f3)) ∧ w'.cell? ⟨(ad211.add ((x3_2).toNat * 6)).block, (ad211.add ((x3_2).toNat * 6)).off + 5, none⟩ = some (.int .i64 ((rd_T28 l0_2 x3_2).f4))) (ds := []) #[false, false, false, false, false, false, false, false, false, false, false, false, false, false, false, false, false, false, false, false, false, false, false, false, false, false, false, false, false, false, false, false, false, false, false, false, false, false, false] (by kernel_rfl) rfl rfl ⟨(blk_cell BK210.out 0).trans rfl, (blk_cell BK210.out 1).trans rfl, (blk_cell BK210.out 2).trans rfl, ((HB.out.cell (World.block_lt_of_cell? w _ hw211_0)).trans hw211_0), ((HB.out.cell (World.block_lt_of_cell? w _ hw211_1)).trans hw211_1), ((HB.out.cell (World.block_lt_of_cell? w _ hw211_2)).trans hw211_2), ((HB.out.cell (World.block_lt_of_cell? w _ hw211_3)).trans hw211_3), ((HB.out.cell (World.block_lt_of_cell? w _ hw211_4)).trans hw211_4), ((HB.out.cell (World.block_lt_of_cell? w _ hw211_5)).trans hw211_5)⟩ (fun hHeld => ?_); refine with_tabW watchmanref08_Is.tab6 watchmanref08_Is.bits6 (fun HT_ HW_ => ?_)
          generalize wr.drew = w33 at BK210 HB hx211_0 hx211_1 hx211_2 hx211_3 hx211_4 hx211_5 hHeld ⊢
          have Q_ := Qs.mk (n := 39) [(0, 0, 37, 1), (0, 2, 39, 5), (2, 1, 38, 7), (0, 3, 40, 15), (2, 4, 41, 31)]
          iterate 5 (first | (obtain ⟨q_, Q_⟩ := Qs.p Q_; refine pureQ_ q_ (v := ?_) (a' := ?_) rfl rfl (any_of HT_.out (by kernel_rfl)) (fun _ _ _ h => h) (Or.inl ⟨by rfl, ?_⟩) ?_ ?_; rotate_left; (intro w'; go_simp; with_reducible rfl); rotate_left; (simp only [Act.put, List.setIfInBounds_toArray, List.set_cons_zero, List.set_cons_succ, i64_w, i32_w]; rfl)) | (obtain ⟨q_, Q_⟩ := Qs.t Q_; refine takeQ_ q_ (v := ?_) (a' := ?_) rfl rfl (take_ofW HT_.out HW_.out (by kernel_rfl)) (fun _ _ _ h => h) (Or.inl ⟨by rfl, ?_⟩) hHeld ?_ ?_; rotate_left; (rintro w' ⟨s0, s1, s2, s3, s4, s5, s6, s7, s8⟩; go_simp; with_reducible rfl); rotate_left; (simp only [Act.put, List.setIfInBounds_toArray, List.set_cons_zero, List.set_cons_succ, i64_w, i32_w]; rfl)))
          clear Q_
          refine one_ (i := 5) (N := some 42) (dn_ 6 39) rfl rfl (one_of HT_.out (by kernel_rfl)) (by decide) (fun K hK => ?_)
          refine goes_ Try.func55 (by kernel_rfl) rfl #[.agg #[.int .i64 ((rd_T28 l0_2 x3_2).f0.f0), .int .i64 ((rd_T28 l0_2 x3_2).f0.f1), .int .i64 ((rd_T28 l0_2 x3_2).f1), .int .i64 ((rd_T28 l0_2 x3_2).f2), .int .i64 ((rd_T28 l0_2 x3_2).f3), .int .i64 ((rd_T28 l0_2 x3_2).f4)]] (by rfl) rfl rfl (by (try simp only [List.map_toArray, List.map_cons, List.map_nil]); first | done | rfl | (simp only [List.length_drop, List.length_take]; rfl)) ?_
          with_reducible refine (watchmanref06_Is.calls ((rd_T28 l0_2 x3_2).f0.f0) ((rd_T28 l0_2 x3_2).f0.f1) ((rd_T28 l0_2 x3_2).f1) ((rd_T28 l0_2 x3_2).f2) ((rd_T28 l0_2 x3_2).f3) ((rd_T28 l0_2 x3_2).f4) false _ A18.out).mono ?_
          rintro e w34 ⟨rfl, hb⟩
          refine ⟨_, rfl, ?_⟩
          replace BK210 := bl_ BK210 hb
          replace HB := Aside0.mk (below_step (by repeat (with_reducible first | exact HB.out | apply pw_below_drewN | apply below_drew1 | refine below_set ?_ GE210.out)) hb)
          (try clear hb)
          (try clear hb2)
          (try clear hk)
          (try clear hi)
          refine hK.out _ _ ⟨(blk_cell BK210.out 0).trans rfl, (blk_cell BK210.out 1).trans rfl, (blk_cell BK210.out 2).trans rfl, ((HB.out.cell (World.block_lt_of_cell? w _ hw211_0)).trans hw211_0), ((HB.out.cell (World.block_lt_of_cell? w _ hw211_1)).trans hw211_1), ((HB.out.cell (World.block_lt_of_cell? w _ hw211_2)).trans hw211_2), ((HB.out.cell (World.block_lt_of_cell? w _ hw211_3)).trans hw211_3), ((HB.out.cell (World.block_lt_of_cell? w _ hw211_4)).trans hw211_4), ((HB.out.cell (World.block_lt_of_cell? w _ hw211_5)).trans hw211_5)⟩ (fun hHeld => ?_)
          clear hK K
          refine norm_ (a' := ?_) ?_ ?_
          rotate_left
          ·show Act.put _ (some 42) _ = _
           simp only [Act.put, List.setIfInBounds_toArray, List.set_cons_zero, List.set_cons_succ, i64_w, i32_w]
           rfl
          have Q_ := Qs.mk (n := 39) [(0, 6, 43, 127), (0, 7, 44, 255), (1, 8, 45, 511), (1, 9, 46, 1023), (1, 10, 47, 2047), (1, 11, 48, 4095), (1, 12, 49, 8191), (1, 13, 50, 16383), (1, 14, 51, 32767), (1, 15, 52, 65535), (1, 16, 53, 131071), (0, 17, 54, 262143), (0, 18, 55, 524287), (1, 19, 56, 1048575), (1, 20, 57, 2097151), (1, 21, 58, 4194303), (1, 22, 59, 8388607), (1, 23, 60, 16777215), (1, 24, 61, 33554431), (1, 25, 62, 67108863), (1, 26, 63, 134217727), (1, 27, 64, 268435455), (1, 28, 65, 536870911), (1, 29, 66, 1073741823), (1, 30, 67, 2147483647), (1, 31, 68, 4294967295), (1, 32, 69, 8589934591), (1, 33, 70, 17179869183), (1, 34, 71, 34359738367), (1, 35, 72, 68719476735), (1, 36, 73, 137438953471), (1, 37, 74, 274877906943), (0, 38, 75, 549755813887)]
          iterate 33 (first | (obtain ⟨q_, Q_⟩ := Qs.p Q_; refine pureQ_ q_ (v := ?_) (a' := ?_) rfl rfl (any_of HT_.out (by kernel_rfl)) (fun _ _ _ h => h) (Or.inl ⟨by rfl, ?_⟩) ?_ ?_; rotate_left; (intro w'; go_simp; with_reducible rfl); rotate_left; (simp only [Act.put, List.setIfInBounds_toArray, List.set_cons_zero, List.set_cons_succ, i64_w, i32_w]; rfl)) | (obtain ⟨q_, Q_⟩ := Qs.u Q_; refine pureQ_ q_ (v := undef) (a' := ?_) rfl rfl (any_of HT_.out (by kernel_rfl)) (fun _ _ _ h => h) (Or.inr ⟨by rfl, rfl⟩) ?_ ?_; rotate_left; (simp only [Act.put, List.setIfInBounds_toArray, List.set_cons_zero, List.set_cons_succ, i64_w, i32_w]; rfl)))
          clear Q_
          refine done_ (done_of HT_.out (by kernel_rfl)) ?_
          try go_wp2
          go_meet
          case rel => exact ⟨_, (true), (by first | rfl | (simp; done) | (simp [*]; done)), H', ⟨by have := HJ1.out; have := HK2.out; first | omega | exact Nat.le_refl _⟩, ⟨by (with_reducible repeat (first | refine blk_drewN ?_ _ | refine blk_drew ?_ | refine blk_alloc ?_ _)); exact BK210.out⟩, ⟨by repeat (with_reducible first | exact HB.out | apply pw_below_drewN | apply below_drew1 | refine below_set ?_ GE210.out)⟩⟩
        ·rw [if_neg c17] at H
         exact absurd H (by simp)
       case rest =>
        clear HC15
        try clear c1; try clear c2; try clear p2; try clear q2; try clear hx2; try clear c5; try clear c17; try clear c19; try clear p21; try clear q21; try clear hx21; try clear c23; try clear c23b0; try clear c25; try clear c26; try clear hx211_0; try clear hx211_1; try clear hx211_2; try clear hx211_3; try clear hx211_4; try clear hx211_5; try clear hx213_0; try clear hx213_1; try clear hx213_2; try clear hx213_3; try clear hx213_4; try clear hx213_5; try clear p211; try clear p213; try clear q211; try clear q213
        obtain ⟨kq, x75_14, rfl, HA, HJ14, BK210, HB⟩ := hcut
        cases kq with
        | zero => exact absurd HA.out (by simp [watchmanref08_Is.j2])
        | succ kj14 =>
         have H := HA.out
         clear HA
         simp only [watchmanref08_Is.j2] at H
         by_cases c35 : x75_14 = true
         ·subst c35
          rw [if_pos rfl] at H; try dsimp only at H
          obtain rfl := Option.some.inj H
          go_wp2
          go_ret
          exact ⟨by first | rfl | (simp [errW_none, errW_some] <;> rfl) | (simp [*, errW_none, errW_some] <;> rfl), by repeat (with_reducible first | exact HB.out | apply pw_below_drewN | apply below_drew1 | refine below_set ?_ GE210.out)⟩
         ·replace c35 := Bool.eq_false_iff.mpr c35
          subst c35
          rw [if_neg (show ¬ (false = true) by decide)] at H; try dsimp only at H
          have H' := Aside0.mk H
          clear H
          go_wp2
          go_roundg kj14
          case measure => have := HJ1.out; have := HK2.out; have := HJ14.out; omega
          case rel => exact ⟨(wrap64 (x3_2 + 1)), (by first | rfl | (simp; done) | (simp [*]; done)), H', ⟨by have := HJ1.out; have := HK2.out; have := HJ14.out; omega⟩, ⟨by (with_reducible repeat (first | refine blk_drewN ?_ _ | refine blk_drew ?_ | refine blk_alloc ?_ _)); exact BK210.out⟩, ⟨by repeat (with_reducible first | exact HB.out | apply pw_below_drewN | apply below_drew1 | refine below_set ?_ GE210.out)⟩⟩
      ·rw [if_neg c14] at H
       have c14b0 : decide (x3_2 < (l0_2.length : Int)) = false := decide_eq_false c14
       clear c14
       obtain rfl := Option.some.inj H
       have hcz36_0 : wr.cell? ⟨gb210, 0, none⟩ = some (.int .i64 a0_0) := (blk_cell BK210.out 0).trans rfl
       have hcz36_1 : wr.cell? ⟨gb210, 1, none⟩ = some (.int .i64 a0_1) := (blk_cell BK210.out 1).trans rfl
       have hcz36_2 : wr.cell? ⟨gb210, 2, none⟩ = some (.slice A0_2 l0_2.length c0_2) := (blk_cell BK210.out 2).trans rfl
       have hfz36_0 := blk_frozen BK210.out 0
       have hfz36_1 := blk_frozen BK210.out 1
       have hfz36_2 := blk_frozen BK210.out 2
       go_wp2
       go_ret
       exact ⟨by first | rfl | (simp [errW_none, errW_some] <;> rfl) | (simp [*, errW_none, errW_some] <;> rfl), by repeat (with_reducible first | exact HB.out | apply pw_below_drewN | apply below_drew1 | refine below_set ?_ GE210.out)⟩

end Go.Proofs.Ytcfpbmdndapeaaa.F
