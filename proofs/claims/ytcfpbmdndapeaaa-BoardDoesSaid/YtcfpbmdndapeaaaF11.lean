-- Written by a program of this session (xprint.py), out of the translation and of contracts proved by hand.
import Derived.Test.YtcfpbmdndapeaaaF0
import Derived.Test.YtcfpbmdndapeaaaF8
import Derived.Test.YtcfpbmdndapeaaaF9
import Derived.Test.YtcfpbmdndapeaaaF10
namespace Go.Proofs.Ytcfpbmdndapeaaa.F
open Go.RowKit Go.Proofs.YtcfpbmdndapeaaaV.PrintWords Go.Proofs.YtcfpbmdndapeaaaV.PrintLast Go.Proofs.YtcfpbmdndapeaaaV.PrintMore
attribute [local go_sem] max2_int min2_int max_two min_two max_three min_three max_four min_four   -- for this text's walks alone
set_option linter.unusedVariables false
set_option linter.unusedSimpArgs false

/-! ### watchmanref08_Put: function 16 -/
def watchmanref08_Put.T7 : Bool × List (List Nat × List Nat) := (true, [([], []), ([], []), ([1], [1]), ([2], [2]), ([0, 3], [0, 3]), ([4], [4]), ([5], [5]), ([6, 5], [5, 6]), ([5], [5]), ([7, 8, 5], [5, 7, 8]), ([9, 5], [5, 9]), ([10, 5], [5, 10]), ([5], [5]), ([12, 5], [5, 12]), ([11, 13, 5, 5], [5, 11, 13]), ([5, 14], [5, 14])])
def watchmanref08_Put.B7 : List Nat := [0, 0, 2, 6, 15, 31, 63, 127, 63, 511, 1023, 2047, 63, 4159, 16383, 32767]
theorem watchmanref08_Put.tab7 : rtab .any (opsOf Try.f16 7) = watchmanref08_Put.T7 := by kernel_rfl
theorem watchmanref08_Put.bits7 : waitsOk watchmanref08_Put.T7.2 watchmanref08_Put.B7 = true := by kernel_rfl
def watchmanref08_Put.lt (a b : Int) (x : S28) : Bool := decide (x.f0.f0 < a) || (decide (x.f0.f0 = a) && decide (x.f0.f1 < b))
theorem watchmanref08_Put.lt_ev (a b : Int) (x : S28) : watchmanref04_Less.f x.f0.f0 x.f0.f1 a b = some (watchmanref08_Put.lt a b x) := by
  unfold watchmanref04_Less.f watchmanref08_Put.lt
  by_cases h1 : x.f0.f0 < a
  · simp [h1]
  · by_cases h2 : x.f0.f0 = a
    · simp [h2]
    · simp [h1, h2]
def watchmanref08_Put.at' (a b : Int) (l : List S28) : Nat := (l.takeWhile (watchmanref08_Put.lt a b)).length
theorem watchmanref08_Put.at_ (p : S28 → Bool) : ∀ (l : List S28) (n : Nat), n ≤ l.length → (∀ x ∈ l.take n, p x = true) → (∀ h : n < l.length, p l[n] = false) → (l.takeWhile p).length = n
  | [], n, h1, _, _ => by simp at h1; simp [h1]
  | x :: l, 0, _, _, h3 => by have h := h3 (by simp); simp at h; simp [h]
  | x :: l, n + 1, h1, h2, h3 => by
    have hx := h2 x (by simp)
    rw [List.takeWhile_cons, if_pos hx, List.length_cons, watchmanref08_Put.at_ p l n (by simpa using h1) (fun y hy => h2 y (by simp [hy])) (fun h => by have h4 := h3 (by simp; omega); rwa [List.getElem_cons_succ] at h4)]
def watchmanref08_Put.f (k : Nat) (a0_0 a0_1 : Int) (l0_2 : List S28) (a1_0 a1_1 a1_2 a1_3 a1_4 a1_5 : Int) : Option (Int × Int × List S28 × Int) := (watchmanref08_Is.f k a0_0 a0_1 l0_2).bind fun t => if t = true then ((watchmanref06_Is.f a1_0 a1_1 a1_2 a1_3 a1_4 a1_5).bind fun u => if u = true then (if a1_4 > a0_1 then some (0, 0, [], 1) else ((watchmanref08_Get.f k a0_0 a0_1 l0_2 a1_0 a1_1).bind fun g => if g.2.2.2.2.2.2 = true then (if (watchmanref08_Put.at' a1_0 a1_1 l0_2) + 1 ≤ l0_2.length ∧ l0_2.length < 1000000 then some (a0_0, a0_1, l0_2.take (watchmanref08_Put.at' a1_0 a1_1 l0_2) ++ (⟨(⟨a1_0, a1_1⟩ : S26), a1_2, a1_3, a1_4, a1_5⟩ : S28) :: l0_2.drop ((watchmanref08_Put.at' a1_0 a1_1 l0_2) + 1), 0) else none) else (if (l0_2.length : Int) ≥ a0_0 then some (0, 0, [], 81) else (if (watchmanref08_Put.at' a1_0 a1_1 l0_2) + 0 ≤ l0_2.length ∧ l0_2.length < 1000000 then some (a0_0, a0_1, l0_2.take (watchmanref08_Put.at' a1_0 a1_1 l0_2) ++ (⟨(⟨a1_0, a1_1⟩ : S26), a1_2, a1_3, a1_4, a1_5⟩ : S28) :: l0_2.drop ((watchmanref08_Put.at' a1_0 a1_1 l0_2) + 0), 0) else none)))) else some (0, 0, [], 1)) else some (0, 0, [], 1)
set_option maxHeartbeats 8000000 in
set_option maxRecDepth 100000 in
theorem watchmanref08_Put.e1 (k : Nat) (a0_0 a0_1 : Int) (A0_2 : Option Addr) (c0_2 : Nat) (l0_2 : List S28) (a1_0 a1_1 a1_2 a1_3 a1_4 a1_5 : Int) (w : World) (hr0_2 : Kd.C k28 w A0_2 l0_2.length l0_2) (hc0_2 : l0_2.length ≤ c0_2) (E0 : watchmanref08_Is.f k a0_0 a0_1 l0_2 = some false) :
    Calls Try.prog 16 #[.agg #[.int .i64 a0_0, .int .i64 a0_1, .slice A0_2 l0_2.length c0_2], .agg #[.int .i64 a1_0, .int .i64 a1_1, .int .i64 a1_2, .int .i64 a1_3, .int .i64 a1_4, .int .i64 a1_5]] w fun e w' => ∃ v2_ : Value, e = .returned (.tuple #[.agg #[.int .i64 0, .int .i64 0, v2_], .int .i64 1]) ∧ Kd.R k28 28 w' w.heap.size (fun _ => True) v2_ ([] : List S28) ∧ Below w.heap.size w w' := by
  have hu0 := Try.underlying24
  have hu1 := Try.underlying28
  have hu2 := Try.underlying26
  have HR0 := Aside0.mk hr0_2
  have HC0 := Aside0.mk hc0_2
  clear hr0_2 hc0_2
  replace E0 := Aside0.mk E0
  have HT := Aside0.mk (T.Tell.init w)
  go_enter Try.func16, Try.ntmps16
  go_wp2_with (first | ((with_reducible refine gate_dst (N := 2) rfl ?_); refine box_event ?hg (N := 2) ?hd (cs := #[.int .i64 a0_0, .int .i64 a0_1, .slice A0_2 l0_2.length c0_2]) (t := 24) ?hr ?_; (case hd => rfl); (case hg => rfl); (case hr => first | (go_simp; done) | (go_simp; rfl)); intro g_b hg w_2 hbox hb; replace HT := Aside0.mk (HT.out.pushBe hbox hg hb); clear hb hbox hg) | ((with_reducible refine gate_dst (N := 3) rfl ?_); refine box_event ?hg (N := 3) ?hd (cs := #[.int .i64 a1_0, .int .i64 a1_1, .int .i64 a1_2, .int .i64 a1_3, .int .i64 a1_4, .int .i64 a1_5]) (t := 28) ?hr ?_; (case hd => rfl); (case hg => rfl); (case hr => first | (go_simp; done) | (go_simp; rfl)); intro g_a hg w_3 hbox hb; replace HT := Aside0.mk (HT.out.pushBe hbox hg hb); clear hb hbox hg) | ((with_reducible refine gate_dst (N := 4) rfl ?_); refine box_event ?hg (N := 4) ?hd (cs := #[.int .i64 0, .int .i64 0, .slice none 0 0]) (t := 24) ?hr ?_; (case hd => rfl); (case hg => rfl); (case hr => first | (go_simp; done) | (go_simp; rfl)); intro g_r hg w_4 hbox hb; replace HT := Aside0.mk (HT.out.pushBe hbox hg hb); clear hb hbox hg; have hx0_b := (HT.out.bx 2 rfl 0).trans rfl; have hx1_b := (HT.out.bx 2 rfl 1).trans rfl; have hx2_b := (HT.out.bx 2 rfl 2).trans rfl; have hz_b := (HT.out.far 2 rfl (k := g_b) rfl).1) | ((with_reducible refine gate_dst (N := 11) rfl ?_); (try (refine gate_guard (by rfl) ?_; dsimp only)); refine goesL_ (some 11) rfl rfl Try.func33 (by kernel_rfl) rfl #[.agg #[.int .i64 a0_0, .int .i64 a0_1, .slice A0_2 l0_2.length c0_2]] rfl (by (try simp only [List.map_toArray, List.map_cons, List.map_nil]); first | done | rfl) ?_; (with_reducible refine (watchmanref08_Is.calls k a0_0 a0_1 _ _ l0_2 false _ ?s1 ?s2 E0.out).mono ?_); (case s1 => exact Kd.C_below HR0.out HT.out.below); (case s2 => exact HC0.out); rintro e_ w_11 ⟨rfl, hb⟩; refine ⟨_, rfl, ?_⟩; replace HT := Aside0.mk (HT.out.step hb); clear hb; have hx0_b := (HT.out.bx 2 rfl 0).trans rfl; have hx1_b := (HT.out.bx 2 rfl 1).trans rfl; have hx2_b := (HT.out.bx 2 rfl 2).trans rfl; have hz_b := (HT.out.far 2 rfl (k := g_b) rfl).1; have hx0_a := (HT.out.bx 1 rfl 0).trans rfl; have hx1_a := (HT.out.bx 1 rfl 1).trans rfl; have hx2_a := (HT.out.bx 1 rfl 2).trans rfl; have hx3_a := (HT.out.bx 1 rfl 3).trans rfl; have hx4_a := (HT.out.bx 1 rfl 4).trans rfl; have hx5_a := (HT.out.bx 1 rfl 5).trans rfl; have hz_a := (HT.out.far 1 rfl (k := g_a) rfl).1; have hf0_ := HT.out.fz 0 rfl 0; have hf1_ := HT.out.fz 0 rfl 1; have hf2_ := HT.out.fz 0 rfl 2; have hx0_r := (HT.out.bx 0 rfl 0).trans rfl; have hx1_r := (HT.out.bx 0 rfl 1).trans rfl; have hx2_r := (HT.out.bx 0 rfl 2).trans rfl; have hz_r := (HT.out.far 0 rfl (k := g_r) rfl).1))
  have HF := (((HT.out.put 0 rfl 0 (.int .i64 0)).put 0 rfl 1 (.int .i64 0)).put 0 rfl 2 (.slice none 0 0))
  refine bodyPost_ret (results_ct rfl _ _ g_r 24 #[.int .i64 0, .int .i64 0, .slice none 0 0] (0, 0) _ rfl (HF.get 0 rfl) Try.underlying24 rfl (by kernel_rfl)) rfl ?_
  exact ⟨_, rfl, Kd.R_nil _ _ _ _ _, HF.below⟩
set_option maxHeartbeats 8000000 in
set_option maxRecDepth 100000 in
theorem watchmanref08_Put.e2 (k : Nat) (a0_0 a0_1 : Int) (A0_2 : Option Addr) (c0_2 : Nat) (l0_2 : List S28) (a1_0 a1_1 a1_2 a1_3 a1_4 a1_5 : Int) (w : World) (hr0_2 : Kd.C k28 w A0_2 l0_2.length l0_2) (hc0_2 : l0_2.length ≤ c0_2) (E0 : watchmanref08_Is.f k a0_0 a0_1 l0_2 = some true) (E1 : watchmanref06_Is.f a1_0 a1_1 a1_2 a1_3 a1_4 a1_5 = some false) :
    Calls Try.prog 16 #[.agg #[.int .i64 a0_0, .int .i64 a0_1, .slice A0_2 l0_2.length c0_2], .agg #[.int .i64 a1_0, .int .i64 a1_1, .int .i64 a1_2, .int .i64 a1_3, .int .i64 a1_4, .int .i64 a1_5]] w fun e w' => ∃ v2_ : Value, e = .returned (.tuple #[.agg #[.int .i64 0, .int .i64 0, v2_], .int .i64 1]) ∧ Kd.R k28 28 w' w.heap.size (fun _ => True) v2_ ([] : List S28) ∧ Below w.heap.size w w' := by
  have hu0 := Try.underlying24
  have hu1 := Try.underlying28
  have hu2 := Try.underlying26
  have HR0 := Aside0.mk hr0_2
  have HC0 := Aside0.mk hc0_2
  clear hr0_2 hc0_2
  replace E0 := Aside0.mk E0
  replace E1 := Aside0.mk E1
  have HT := Aside0.mk (T.Tell.init w)
  go_enter Try.func16, Try.ntmps16
  go_wp2_with (first | ((with_reducible refine gate_dst (N := 2) rfl ?_); refine box_event ?hg (N := 2) ?hd (cs := #[.int .i64 a0_0, .int .i64 a0_1, .slice A0_2 l0_2.length c0_2]) (t := 24) ?hr ?_; (case hd => rfl); (case hg => rfl); (case hr => first | (go_simp; done) | (go_simp; rfl)); intro g_b hg w_2 hbox hb; replace HT := Aside0.mk (HT.out.pushBe hbox hg hb); clear hb hbox hg) | ((with_reducible refine gate_dst (N := 3) rfl ?_); refine box_event ?hg (N := 3) ?hd (cs := #[.int .i64 a1_0, .int .i64 a1_1, .int .i64 a1_2, .int .i64 a1_3, .int .i64 a1_4, .int .i64 a1_5]) (t := 28) ?hr ?_; (case hd => rfl); (case hg => rfl); (case hr => first | (go_simp; done) | (go_simp; rfl)); intro g_a hg w_3 hbox hb; replace HT := Aside0.mk (HT.out.pushBe hbox hg hb); clear hb hbox hg) | ((with_reducible refine gate_dst (N := 4) rfl ?_); refine box_event ?hg (N := 4) ?hd (cs := #[.int .i64 0, .int .i64 0, .slice none 0 0]) (t := 24) ?hr ?_; (case hd => rfl); (case hg => rfl); (case hr => first | (go_simp; done) | (go_simp; rfl)); intro g_r hg w_4 hbox hb; replace HT := Aside0.mk (HT.out.pushBe hbox hg hb); clear hb hbox hg; have hx0_b := (HT.out.bx 2 rfl 0).trans rfl; have hx1_b := (HT.out.bx 2 rfl 1).trans rfl; have hx2_b := (HT.out.bx 2 rfl 2).trans rfl; have hz_b := (HT.out.far 2 rfl (k := g_b) rfl).1) | ((with_reducible refine gate_dst (N := 11) rfl ?_); (try (refine gate_guard (by rfl) ?_; dsimp only)); refine goesL_ (some 11) rfl rfl Try.func33 (by kernel_rfl) rfl #[.agg #[.int .i64 a0_0, .int .i64 a0_1, .slice A0_2 l0_2.length c0_2]] rfl (by (try simp only [List.map_toArray, List.map_cons, List.map_nil]); first | done | rfl) ?_; (with_reducible refine (watchmanref08_Is.calls k a0_0 a0_1 _ _ l0_2 true _ ?s1 ?s2 E0.out).mono ?_); (case s1 => exact Kd.C_below HR0.out HT.out.below); (case s2 => exact HC0.out); rintro e_ w_11 ⟨rfl, hb⟩; refine ⟨_, rfl, ?_⟩; replace HT := Aside0.mk (HT.out.step hb); clear hb; have hx0_b := (HT.out.bx 2 rfl 0).trans rfl; have hx1_b := (HT.out.bx 2 rfl 1).trans rfl; have hx2_b := (HT.out.bx 2 rfl 2).trans rfl; have hz_b := (HT.out.far 2 rfl (k := g_b) rfl).1; have hx0_a := (HT.out.bx 1 rfl 0).trans rfl; have hx1_a := (HT.out.bx 1 rfl 1).trans rfl; have hx2_a := (HT.out.bx 1 rfl 2).trans rfl; have hx3_a := (HT.out.bx 1 rfl 3).trans rfl; have hx4_a := (HT.out.bx 1 rfl 4).trans rfl; have hx5_a := (HT.out.bx 1 rfl 5).trans rfl; have hz_a := (HT.out.far 1 rfl (k := g_a) rfl).1; have hf0_ := HT.out.fz 0 rfl 0; have hf1_ := HT.out.fz 0 rfl 1; have hf2_ := HT.out.fz 0 rfl 2; have hx0_r := (HT.out.bx 0 rfl 0).trans rfl; have hx1_r := (HT.out.bx 0 rfl 1).trans rfl; have hx2_r := (HT.out.bx 0 rfl 2).trans rfl; have hz_r := (HT.out.far 0 rfl (k := g_r) rfl).1) | ((with_reducible refine gate_dst (N := 15) rfl ?_); (try (refine gate_guard (by rfl) ?_; dsimp only)); refine goesL_ (some 15) rfl rfl Try.func55 (by kernel_rfl) rfl #[.agg #[.int .i64 a1_0, .int .i64 a1_1, .int .i64 a1_2, .int .i64 a1_3, .int .i64 a1_4, .int .i64 a1_5]] rfl (by (try simp only [List.map_toArray, List.map_cons, List.map_nil]); first | done | rfl) ?_; (with_reducible refine (watchmanref06_Is.calls a1_0 a1_1 a1_2 a1_3 a1_4 a1_5 false _ E1.out).mono ?_); rintro e_ w_15 ⟨rfl, hb⟩; refine ⟨_, rfl, ?_⟩; replace HT := Aside0.mk (HT.out.step hb); clear hb; have hx0_b := (HT.out.bx 2 rfl 0).trans rfl; have hx1_b := (HT.out.bx 2 rfl 1).trans rfl; have hx2_b := (HT.out.bx 2 rfl 2).trans rfl; have hz_b := (HT.out.far 2 rfl (k := g_b) rfl).1; have hx0_a := (HT.out.bx 1 rfl 0).trans rfl; have hx1_a := (HT.out.bx 1 rfl 1).trans rfl; have hx2_a := (HT.out.bx 1 rfl 2).trans rfl; have hx3_a := (HT.out.bx 1 rfl 3).trans rfl; have hx4_a := (HT.out.bx 1 rfl 4).trans rfl; have hx5_a := (HT.out.bx 1 rfl 5).trans rfl; have hz_a := (HT.out.far 1 rfl (k := g_a) rfl).1; have hf0_ := HT.out.fz 0 rfl 0; have hf1_ := HT.out.fz 0 rfl 1; have hf2_ := HT.out.fz 0 rfl 2; have hx0_r := (HT.out.bx 0 rfl 0).trans rfl; have hx1_r := (HT.out.bx 0 rfl 1).trans rfl; have hx2_r := (HT.out.bx 0 rfl 2).trans rfl; have hz_r := (HT.out.far 0 rfl (k := g_r) rfl).1))
  have HF := (((HT.out.put 0 rfl 0 (.int .i64 0)).put 0 rfl 1 (.int .i64 0)).put 0 rfl 2 (.slice none 0 0))
  refine bodyPost_ret (results_ct rfl _ _ g_r 24 #[.int .i64 0, .int .i64 0, .slice none 0 0] (0, 0) _ rfl (HF.get 0 rfl) Try.underlying24 rfl (by kernel_rfl)) rfl ?_
  exact ⟨_, rfl, Kd.R_nil _ _ _ _ _, HF.below⟩
set_option maxHeartbeats 8000000 in
set_option maxRecDepth 100000 in
theorem watchmanref08_Put.e3 (k : Nat) (a0_0 a0_1 : Int) (A0_2 : Option Addr) (c0_2 : Nat) (l0_2 : List S28) (a1_0 a1_1 a1_2 a1_3 a1_4 a1_5 : Int) (w : World) (hr0_2 : Kd.C k28 w A0_2 l0_2.length l0_2) (hc0_2 : l0_2.length ≤ c0_2) (E0 : watchmanref08_Is.f k a0_0 a0_1 l0_2 = some true) (E1 : watchmanref06_Is.f a1_0 a1_1 a1_2 a1_3 a1_4 a1_5 = some true) (hg : decide (a1_4 > a0_1) = true) :
    Calls Try.prog 16 #[.agg #[.int .i64 a0_0, .int .i64 a0_1, .slice A0_2 l0_2.length c0_2], .agg #[.int .i64 a1_0, .int .i64 a1_1, .int .i64 a1_2, .int .i64 a1_3, .int .i64 a1_4, .int .i64 a1_5]] w fun e w' => ∃ v2_ : Value, e = .returned (.tuple #[.agg #[.int .i64 0, .int .i64 0, v2_], .int .i64 1]) ∧ Kd.R k28 28 w' w.heap.size (fun _ => True) v2_ ([] : List S28) ∧ Below w.heap.size w w' := by
  have hu0 := Try.underlying24
  have hu1 := Try.underlying28
  have hu2 := Try.underlying26
  have HR0 := Aside0.mk hr0_2
  have HC0 := Aside0.mk hc0_2
  clear hr0_2 hc0_2
  replace E0 := Aside0.mk E0
  replace E1 := Aside0.mk E1
  have HT := Aside0.mk (T.Tell.init w)
  go_enter Try.func16, Try.ntmps16
  go_wp2_with (first | ((with_reducible refine gate_dst (N := 2) rfl ?_); refine box_event ?hg (N := 2) ?hd (cs := #[.int .i64 a0_0, .int .i64 a0_1, .slice A0_2 l0_2.length c0_2]) (t := 24) ?hr ?_; (case hd => rfl); (case hg => rfl); (case hr => first | (go_simp; done) | (go_simp; rfl)); intro g_b hg w_2 hbox hb; replace HT := Aside0.mk (HT.out.pushBe hbox hg hb); clear hb hbox hg) | ((with_reducible refine gate_dst (N := 3) rfl ?_); refine box_event ?hg (N := 3) ?hd (cs := #[.int .i64 a1_0, .int .i64 a1_1, .int .i64 a1_2, .int .i64 a1_3, .int .i64 a1_4, .int .i64 a1_5]) (t := 28) ?hr ?_; (case hd => rfl); (case hg => rfl); (case hr => first | (go_simp; done) | (go_simp; rfl)); intro g_a hg w_3 hbox hb; replace HT := Aside0.mk (HT.out.pushBe hbox hg hb); clear hb hbox hg) | ((with_reducible refine gate_dst (N := 4) rfl ?_); refine box_event ?hg (N := 4) ?hd (cs := #[.int .i64 0, .int .i64 0, .slice none 0 0]) (t := 24) ?hr ?_; (case hd => rfl); (case hg => rfl); (case hr => first | (go_simp; done) | (go_simp; rfl)); intro g_r hg w_4 hbox hb; replace HT := Aside0.mk (HT.out.pushBe hbox hg hb); clear hb hbox hg; have hx0_b := (HT.out.bx 2 rfl 0).trans rfl; have hx1_b := (HT.out.bx 2 rfl 1).trans rfl; have hx2_b := (HT.out.bx 2 rfl 2).trans rfl; have hz_b := (HT.out.far 2 rfl (k := g_b) rfl).1) | ((with_reducible refine gate_dst (N := 11) rfl ?_); (try (refine gate_guard (by rfl) ?_; dsimp only)); refine goesL_ (some 11) rfl rfl Try.func33 (by kernel_rfl) rfl #[.agg #[.int .i64 a0_0, .int .i64 a0_1, .slice A0_2 l0_2.length c0_2]] rfl (by (try simp only [List.map_toArray, List.map_cons, List.map_nil]); first | done | rfl) ?_; (with_reducible refine (watchmanref08_Is.calls k a0_0 a0_1 _ _ l0_2 true _ ?s1 ?s2 E0.out).mono ?_); (case s1 => exact Kd.C_below HR0.out HT.out.below); (case s2 => exact HC0.out); rintro e_ w_11 ⟨rfl, hb⟩; refine ⟨_, rfl, ?_⟩; replace HT := Aside0.mk (HT.out.step hb); clear hb; have hx0_b := (HT.out.bx 2 rfl 0).trans rfl; have hx1_b := (HT.out.bx 2 rfl 1).trans rfl; have hx2_b := (HT.out.bx 2 rfl 2).trans rfl; have hz_b := (HT.out.far 2 rfl (k := g_b) rfl).1; have hx0_a := (HT.out.bx 1 rfl 0).trans rfl; have hx1_a := (HT.out.bx 1 rfl 1).trans rfl; have hx2_a := (HT.out.bx 1 rfl 2).trans rfl; have hx3_a := (HT.out.bx 1 rfl 3).trans rfl; have hx4_a := (HT.out.bx 1 rfl 4).trans rfl; have hx5_a := (HT.out.bx 1 rfl 5).trans rfl; have hz_a := (HT.out.far 1 rfl (k := g_a) rfl).1; have hf0_ := HT.out.fz 0 rfl 0; have hf1_ := HT.out.fz 0 rfl 1; have hf2_ := HT.out.fz 0 rfl 2; have hx0_r := (HT.out.bx 0 rfl 0).trans rfl; have hx1_r := (HT.out.bx 0 rfl 1).trans rfl; have hx2_r := (HT.out.bx 0 rfl 2).trans rfl; have hz_r := (HT.out.far 0 rfl (k := g_r) rfl).1) | ((with_reducible refine gate_dst (N := 15) rfl ?_); (try (refine gate_guard (by rfl) ?_; dsimp only)); refine goesL_ (some 15) rfl rfl Try.func55 (by kernel_rfl) rfl #[.agg #[.int .i64 a1_0, .int .i64 a1_1, .int .i64 a1_2, .int .i64 a1_3, .int .i64 a1_4, .int .i64 a1_5]] rfl (by (try simp only [List.map_toArray, List.map_cons, List.map_nil]); first | done | rfl) ?_; (with_reducible refine (watchmanref06_Is.calls a1_0 a1_1 a1_2 a1_3 a1_4 a1_5 true _ E1.out).mono ?_); rintro e_ w_15 ⟨rfl, hb⟩; refine ⟨_, rfl, ?_⟩; replace HT := Aside0.mk (HT.out.step hb); clear hb; have hx0_b := (HT.out.bx 2 rfl 0).trans rfl; have hx1_b := (HT.out.bx 2 rfl 1).trans rfl; have hx2_b := (HT.out.bx 2 rfl 2).trans rfl; have hz_b := (HT.out.far 2 rfl (k := g_b) rfl).1; have hx0_a := (HT.out.bx 1 rfl 0).trans rfl; have hx1_a := (HT.out.bx 1 rfl 1).trans rfl; have hx2_a := (HT.out.bx 1 rfl 2).trans rfl; have hx3_a := (HT.out.bx 1 rfl 3).trans rfl; have hx4_a := (HT.out.bx 1 rfl 4).trans rfl; have hx5_a := (HT.out.bx 1 rfl 5).trans rfl; have hz_a := (HT.out.far 1 rfl (k := g_a) rfl).1; have hf0_ := HT.out.fz 0 rfl 0; have hf1_ := HT.out.fz 0 rfl 1; have hf2_ := HT.out.fz 0 rfl 2; have hx0_r := (HT.out.bx 0 rfl 0).trans rfl; have hx1_r := (HT.out.bx 0 rfl 1).trans rfl; have hx2_r := (HT.out.bx 0 rfl 2).trans rfl; have hz_r := (HT.out.far 0 rfl (k := g_r) rfl).1))
  have HF := (((HT.out.put 0 rfl 0 (.int .i64 0)).put 0 rfl 1 (.int .i64 0)).put 0 rfl 2 (.slice none 0 0))
  refine bodyPost_ret (results_ct rfl _ _ g_r 24 #[.int .i64 0, .int .i64 0, .slice none 0 0] (0, 0) _ rfl (HF.get 0 rfl) Try.underlying24 rfl (by kernel_rfl)) rfl ?_
  exact ⟨_, rfl, Kd.R_nil _ _ _ _ _, HF.below⟩
set_option maxHeartbeats 8000000 in
set_option maxRecDepth 100000 in
theorem watchmanref08_Put.e4 (k : Nat) (a0_0 a0_1 : Int) (A0_2 : Option Addr) (c0_2 : Nat) (l0_2 : List S28) (a1_0 a1_1 a1_2 a1_3 a1_4 a1_5 : Int) (t1 t2 t3 t4 t5 t6 : Int) (w : World) (hr0_2 : Kd.C k28 w A0_2 l0_2.length l0_2) (hc0_2 : l0_2.length ≤ c0_2) (E0 : watchmanref08_Is.f k a0_0 a0_1 l0_2 = some true) (E1 : watchmanref06_Is.f a1_0 a1_1 a1_2 a1_3 a1_4 a1_5 = some true) (hg : decide (a1_4 > a0_1) = false) (E2 : watchmanref08_Get.f k a0_0 a0_1 l0_2 a1_0 a1_1 = some (t1, t2, t3, t4, t5, t6, false)) (hf : decide ((l0_2.length : Int) ≥ a0_0) = true) :
    Calls Try.prog 16 #[.agg #[.int .i64 a0_0, .int .i64 a0_1, .slice A0_2 l0_2.length c0_2], .agg #[.int .i64 a1_0, .int .i64 a1_1, .int .i64 a1_2, .int .i64 a1_3, .int .i64 a1_4, .int .i64 a1_5]] w fun e w' => ∃ v2_ : Value, e = .returned (.tuple #[.agg #[.int .i64 0, .int .i64 0, v2_], .int .i64 81]) ∧ Kd.R k28 28 w' w.heap.size (fun _ => True) v2_ ([] : List S28) ∧ Below w.heap.size w w' := by
  have hu0 := Try.underlying24
  have hu1 := Try.underlying28
  have hu2 := Try.underlying26
  have HR0 := Aside0.mk hr0_2
  have HC0 := Aside0.mk hc0_2
  clear hr0_2 hc0_2
  replace E0 := Aside0.mk E0
  replace E1 := Aside0.mk E1
  replace E2 := Aside0.mk E2
  have HT := Aside0.mk (T.Tell.init w)
  go_enter Try.func16, Try.ntmps16
  go_wp2_with (first | ((with_reducible refine gate_dst (N := 2) rfl ?_); refine box_event ?hg (N := 2) ?hd (cs := #[.int .i64 a0_0, .int .i64 a0_1, .slice A0_2 l0_2.length c0_2]) (t := 24) ?hr ?_; (case hd => rfl); (case hg => rfl); (case hr => first | (go_simp; done) | (go_simp; rfl)); intro g_b hg w_2 hbox hb; replace HT := Aside0.mk (HT.out.pushBe hbox hg hb); clear hb hbox hg) | ((with_reducible refine gate_dst (N := 3) rfl ?_); refine box_event ?hg (N := 3) ?hd (cs := #[.int .i64 a1_0, .int .i64 a1_1, .int .i64 a1_2, .int .i64 a1_3, .int .i64 a1_4, .int .i64 a1_5]) (t := 28) ?hr ?_; (case hd => rfl); (case hg => rfl); (case hr => first | (go_simp; done) | (go_simp; rfl)); intro g_a hg w_3 hbox hb; replace HT := Aside0.mk (HT.out.pushBe hbox hg hb); clear hb hbox hg) | ((with_reducible refine gate_dst (N := 4) rfl ?_); refine box_event ?hg (N := 4) ?hd (cs := #[.int .i64 0, .int .i64 0, .slice none 0 0]) (t := 24) ?hr ?_; (case hd => rfl); (case hg => rfl); (case hr => first | (go_simp; done) | (go_simp; rfl)); intro g_r hg w_4 hbox hb; replace HT := Aside0.mk (HT.out.pushBe hbox hg hb); clear hb hbox hg; have hx0_b := (HT.out.bx 2 rfl 0).trans rfl; have hx1_b := (HT.out.bx 2 rfl 1).trans rfl; have hx2_b := (HT.out.bx 2 rfl 2).trans rfl; have hz_b := (HT.out.far 2 rfl (k := g_b) rfl).1) | ((with_reducible refine gate_dst (N := 11) rfl ?_); (try (refine gate_guard (by rfl) ?_; dsimp only)); refine goesL_ (some 11) rfl rfl Try.func33 (by kernel_rfl) rfl #[.agg #[.int .i64 a0_0, .int .i64 a0_1, .slice A0_2 l0_2.length c0_2]] rfl (by (try simp only [List.map_toArray, List.map_cons, List.map_nil]); first | done | rfl) ?_; (with_reducible refine (watchmanref08_Is.calls k a0_0 a0_1 _ _ l0_2 true _ ?s1 ?s2 E0.out).mono ?_); (case s1 => exact Kd.C_below HR0.out HT.out.below); (case s2 => exact HC0.out); rintro e_ w_11 ⟨rfl, hb⟩; refine ⟨_, rfl, ?_⟩; replace HT := Aside0.mk (HT.out.step hb); clear hb; have hx0_b := (HT.out.bx 2 rfl 0).trans rfl; have hx1_b := (HT.out.bx 2 rfl 1).trans rfl; have hx2_b := (HT.out.bx 2 rfl 2).trans rfl; have hz_b := (HT.out.far 2 rfl (k := g_b) rfl).1; have hx0_a := (HT.out.bx 1 rfl 0).trans rfl; have hx1_a := (HT.out.bx 1 rfl 1).trans rfl; have hx2_a := (HT.out.bx 1 rfl 2).trans rfl; have hx3_a := (HT.out.bx 1 rfl 3).trans rfl; have hx4_a := (HT.out.bx 1 rfl 4).trans rfl; have hx5_a := (HT.out.bx 1 rfl 5).trans rfl; have hz_a := (HT.out.far 1 rfl (k := g_a) rfl).1; have hf0_ := HT.out.fz 0 rfl 0; have hf1_ := HT.out.fz 0 rfl 1; have hf2_ := HT.out.fz 0 rfl 2; have hx0_r := (HT.out.bx 0 rfl 0).trans rfl; have hx1_r := (HT.out.bx 0 rfl 1).trans rfl; have hx2_r := (HT.out.bx 0 rfl 2).trans rfl; have hz_r := (HT.out.far 0 rfl (k := g_r) rfl).1) | ((with_reducible refine gate_dst (N := 15) rfl ?_); (try (refine gate_guard (by rfl) ?_; dsimp only)); refine goesL_ (some 15) rfl rfl Try.func55 (by kernel_rfl) rfl #[.agg #[.int .i64 a1_0, .int .i64 a1_1, .int .i64 a1_2, .int .i64 a1_3, .int .i64 a1_4, .int .i64 a1_5]] rfl (by (try simp only [List.map_toArray, List.map_cons, List.map_nil]); first | done | rfl) ?_; (with_reducible refine (watchmanref06_Is.calls a1_0 a1_1 a1_2 a1_3 a1_4 a1_5 true _ E1.out).mono ?_); rintro e_ w_15 ⟨rfl, hb⟩; refine ⟨_, rfl, ?_⟩; replace HT := Aside0.mk (HT.out.step hb); clear hb; have hx0_b := (HT.out.bx 2 rfl 0).trans rfl; have hx1_b := (HT.out.bx 2 rfl 1).trans rfl; have hx2_b := (HT.out.bx 2 rfl 2).trans rfl; have hz_b := (HT.out.far 2 rfl (k := g_b) rfl).1; have hx0_a := (HT.out.bx 1 rfl 0).trans rfl; have hx1_a := (HT.out.bx 1 rfl 1).trans rfl; have hx2_a := (HT.out.bx 1 rfl 2).trans rfl; have hx3_a := (HT.out.bx 1 rfl 3).trans rfl; have hx4_a := (HT.out.bx 1 rfl 4).trans rfl; have hx5_a := (HT.out.bx 1 rfl 5).trans rfl; have hz_a := (HT.out.far 1 rfl (k := g_a) rfl).1; have hf0_ := HT.out.fz 0 rfl 0; have hf1_ := HT.out.fz 0 rfl 1; have hf2_ := HT.out.fz 0 rfl 2; have hx0_r := (HT.out.bx 0 rfl 0).trans rfl; have hx1_r := (HT.out.bx 0 rfl 1).trans rfl; have hx2_r := (HT.out.bx 0 rfl 2).trans rfl; have hz_r := (HT.out.far 0 rfl (k := g_r) rfl).1) | ((with_reducible refine gate_dst (N := 30) rfl ?_); (try (refine gate_guard (by rfl) ?_; dsimp only)); refine goesL_ (some 30) rfl rfl Try.func22 (by kernel_rfl) rfl #[.agg #[.int .i64 a0_0, .int .i64 a0_1, .slice A0_2 l0_2.length c0_2], .agg #[.int .i64 a1_0, .int .i64 a1_1]] rfl (by (try simp only [List.map_toArray, List.map_cons, List.map_nil]); first | done | rfl) ?_; (with_reducible refine (watchmanref08_Get.calls k a0_0 a0_1 _ _ l0_2 a1_0 a1_1 t1 t2 t3 t4 t5 t6 false _ ?s1 ?s2 E2.out).mono ?_); (case s1 => exact Kd.C_below HR0.out HT.out.below); (case s2 => exact HC0.out); rintro e_ w_30 ⟨rfl, hb⟩; refine ⟨_, rfl, ?_⟩; replace HT := Aside0.mk (HT.out.step hb); clear hb; have hx0_b := (HT.out.bx 2 rfl 0).trans rfl; have hx1_b := (HT.out.bx 2 rfl 1).trans rfl; have hx2_b := (HT.out.bx 2 rfl 2).trans rfl; have hz_b := (HT.out.far 2 rfl (k := g_b) rfl).1; have hf0_ := HT.out.fz 0 rfl 0; have hf1_ := HT.out.fz 0 rfl 1; have hf2_ := HT.out.fz 0 rfl 2; have hx0_r := (HT.out.bx 0 rfl 0).trans rfl; have hx1_r := (HT.out.bx 0 rfl 1).trans rfl; have hx2_r := (HT.out.bx 0 rfl 2).trans rfl; have hz_r := (HT.out.far 0 rfl (k := g_r) rfl).1))
  have HF := (((HT.out.put 0 rfl 0 (.int .i64 0)).put 0 rfl 1 (.int .i64 0)).put 0 rfl 2 (.slice none 0 0)).pushB #[.int .i64 t1, .int .i64 t2, .int .i64 t3, .int .i64 t4, .int .i64 t5, .int .i64 t6] 28
  refine bodyPost_ret (results_ct rfl _ _ g_r 24 #[.int .i64 0, .int .i64 0, .slice none 0 0] (0, 0) _ rfl (HF.get 1 rfl) Try.underlying24 rfl (by kernel_rfl)) rfl ?_
  exact ⟨_, rfl, Kd.R_nil _ _ _ _ _, HF.below⟩
set_option maxHeartbeats 8000000 in
set_option maxRecDepth 100000 in
theorem watchmanref08_Put.main (k : Nat) (a0_0 a0_1 : Int) (A0_2 : Option Addr) (c0_2 : Nat) (l0_2 : List S28) (a1_0 a1_1 a1_2 a1_3 a1_4 a1_5 : Int) (t1 t2 t3 t4 t5 t6 : Int) (th : Bool) (w : World) (hr0_2 : Kd.C k28 w A0_2 l0_2.length l0_2) (hc0_2 : l0_2.length ≤ c0_2) (E0 : watchmanref08_Is.f k a0_0 a0_1 l0_2 = some true) (E1 : watchmanref06_Is.f a1_0 a1_1 a1_2 a1_3 a1_4 a1_5 = some true) (hg : decide (a1_4 > a0_1) = false) (E2 : watchmanref08_Get.f k a0_0 a0_1 l0_2 a1_0 a1_1 = some (t1, t2, t3, t4, t5, t6, th)) (hf : (!th && decide ((l0_2.length : Int) ≥ a0_0)) = false) (n : Nat) (hn : Aside0 ((watchmanref08_Put.at' a1_0 a1_1 l0_2) = n)) (hle : n + (if th = true then 1 else 0) ≤ l0_2.length) (hl : l0_2.length < 1000000) (D : List S28) (hD : Aside0 (D = l0_2.drop (n + if th = true then 1 else 0))) :
    Calls Try.prog 16 #[.agg #[.int .i64 a0_0, .int .i64 a0_1, .slice A0_2 l0_2.length c0_2], .agg #[.int .i64 a1_0, .int .i64 a1_1, .int .i64 a1_2, .int .i64 a1_3, .int .i64 a1_4, .int .i64 a1_5]] w fun e w' => ∃ v2_ : Value, e = .returned (.tuple #[.agg #[.int .i64 a0_0, .int .i64 a0_1, v2_], .int .i64 0]) ∧ Kd.R k28 28 w' w.heap.size (fun _ => True) v2_ (l0_2.take n ++ (⟨(⟨a1_0, a1_1⟩ : S26), a1_2, a1_3, a1_4, a1_5⟩ : S28) :: D) ∧ Below w.heap.size w w' := by
  have hu0 := Try.underlying24
  have hu1 := Try.underlying28
  have hu2 := Try.underlying26
  have HR0 := Aside0.mk hr0_2
  have HC0 := Aside0.mk hc0_2
  clear hr0_2 hc0_2
  replace E0 := Aside0.mk E0
  replace E1 := Aside0.mk E1
  replace E2 := Aside0.mk E2
  cases th
  all_goals
    try simp only [Bool.not_false, Bool.true_and] at hf
    try simp only [Bool.false_eq_true, if_false, if_true, Nat.add_zero] at hle hD
    have HT := Aside0.mk (T.Tell.init w)
    go_enter Try.func16, Try.ntmps16
    go_upto_block 0 with (first | ((with_reducible refine gate_dst (N := 2) rfl ?_); refine box_event ?hg (N := 2) ?hd (cs := #[.int .i64 a0_0, .int .i64 a0_1, .slice A0_2 l0_2.length c0_2]) (t := 24) ?hr ?_; (case hd => rfl); (case hg => rfl); (case hr => first | (go_simp; done) | (go_simp; rfl)); intro g_b hg w_2 hbox hb; replace HT := Aside0.mk (HT.out.pushBe hbox hg hb); clear hb hbox hg) | ((with_reducible refine gate_dst (N := 3) rfl ?_); refine box_event ?hg (N := 3) ?hd (cs := #[.int .i64 a1_0, .int .i64 a1_1, .int .i64 a1_2, .int .i64 a1_3, .int .i64 a1_4, .int .i64 a1_5]) (t := 28) ?hr ?_; (case hd => rfl); (case hg => rfl); (case hr => first | (go_simp; done) | (go_simp; rfl)); intro g_a hg w_3 hbox hb; replace HT := Aside0.mk (HT.out.pushBe hbox hg hb); clear hb hbox hg) | ((with_reducible refine gate_dst (N := 4) rfl ?_); refine box_event ?hg (N := 4) ?hd (cs := #[.int .i64 0, .int .i64 0, .slice none 0 0]) (t := 24) ?hr ?_; (case hd => rfl); (case hg => rfl); (case hr => first | (go_simp; done) | (go_simp; rfl)); intro g_r hg w_4 hbox hb; replace HT := Aside0.mk (HT.out.pushBe hbox hg hb); clear hb hbox hg; have hx0_b := (HT.out.bx 2 rfl 0).trans rfl; have hx1_b := (HT.out.bx 2 rfl 1).trans rfl; have hx2_b := (HT.out.bx 2 rfl 2).trans rfl; have hz_b := (HT.out.far 2 rfl (k := g_b) rfl).1) | ((with_reducible refine gate_dst (N := 11) rfl ?_); (try (refine gate_guard (by rfl) ?_; dsimp only)); refine goesL_ (some 11) rfl rfl Try.func33 (by kernel_rfl) rfl #[.agg #[.int .i64 a0_0, .int .i64 a0_1, .slice A0_2 l0_2.length c0_2]] rfl (by (try simp only [List.map_toArray, List.map_cons, List.map_nil]); first | done | rfl) ?_; (with_reducible refine (watchmanref08_Is.calls k a0_0 a0_1 _ _ l0_2 true _ ?s1 ?s2 E0.out).mono ?_); (case s1 => exact Kd.C_below HR0.out HT.out.below); (case s2 => exact HC0.out); rintro e_ w_11 ⟨rfl, hb⟩; refine ⟨_, rfl, ?_⟩; replace HT := Aside0.mk (HT.out.step hb); clear hb; have hx0_b := (HT.out.bx 2 rfl 0).trans rfl; have hx1_b := (HT.out.bx 2 rfl 1).trans rfl; have hx2_b := (HT.out.bx 2 rfl 2).trans rfl; have hz_b := (HT.out.far 2 rfl (k := g_b) rfl).1; have hx0_a := (HT.out.bx 1 rfl 0).trans rfl; have hx1_a := (HT.out.bx 1 rfl 1).trans rfl; have hx2_a := (HT.out.bx 1 rfl 2).trans rfl; have hx3_a := (HT.out.bx 1 rfl 3).trans rfl; have hx4_a := (HT.out.bx 1 rfl 4).trans rfl; have hx5_a := (HT.out.bx 1 rfl 5).trans rfl; have hz_a := (HT.out.far 1 rfl (k := g_a) rfl).1; have hf0_ := HT.out.fz 0 rfl 0; have hf1_ := HT.out.fz 0 rfl 1; have hf2_ := HT.out.fz 0 rfl 2; have hx0_r := (HT.out.bx 0 rfl 0).trans rfl; have hx1_r := (HT.out.bx 0 rfl 1).trans rfl; have hx2_r := (HT.out.bx 0 rfl 2).trans rfl; have hz_r := (HT.out.far 0 rfl (k := g_r) rfl).1) | ((with_reducible refine gate_dst (N := 15) rfl ?_); (try (refine gate_guard (by rfl) ?_; dsimp only)); refine goesL_ (some 15) rfl rfl Try.func55 (by kernel_rfl) rfl #[.agg #[.int .i64 a1_0, .int .i64 a1_1, .int .i64 a1_2, .int .i64 a1_3, .int .i64 a1_4, .int .i64 a1_5]] rfl (by (try simp only [List.map_toArray, List.map_cons, List.map_nil]); first | done | rfl) ?_; (with_reducible refine (watchmanref06_Is.calls a1_0 a1_1 a1_2 a1_3 a1_4 a1_5 true _ E1.out).mono ?_); rintro e_ w_15 ⟨rfl, hb⟩; refine ⟨_, rfl, ?_⟩; replace HT := Aside0.mk (HT.out.step hb); clear hb; have hx0_b := (HT.out.bx 2 rfl 0).trans rfl; have hx1_b := (HT.out.bx 2 rfl 1).trans rfl; have hx2_b := (HT.out.bx 2 rfl 2).trans rfl; have hz_b := (HT.out.far 2 rfl (k := g_b) rfl).1; have hx0_a := (HT.out.bx 1 rfl 0).trans rfl; have hx1_a := (HT.out.bx 1 rfl 1).trans rfl; have hx2_a := (HT.out.bx 1 rfl 2).trans rfl; have hx3_a := (HT.out.bx 1 rfl 3).trans rfl; have hx4_a := (HT.out.bx 1 rfl 4).trans rfl; have hx5_a := (HT.out.bx 1 rfl 5).trans rfl; have hz_a := (HT.out.far 1 rfl (k := g_a) rfl).1; have hf0_ := HT.out.fz 0 rfl 0; have hf1_ := HT.out.fz 0 rfl 1; have hf2_ := HT.out.fz 0 rfl 2; have hx0_r := (HT.out.bx 0 rfl 0).trans rfl; have hx1_r := (HT.out.bx 0 rfl 1).trans rfl; have hx2_r := (HT.out.bx 0 rfl 2).trans rfl; have hz_r := (HT.out.far 0 rfl (k := g_r) rfl).1) | ((with_reducible refine gate_dst (N := 30) rfl ?_); (try (refine gate_guard (by rfl) ?_; dsimp only)); refine goesL_ (some 30) rfl rfl Try.func22 (by kernel_rfl) rfl #[.agg #[.int .i64 a0_0, .int .i64 a0_1, .slice A0_2 l0_2.length c0_2], .agg #[.int .i64 a1_0, .int .i64 a1_1]] rfl (by (try simp only [List.map_toArray, List.map_cons, List.map_nil]); first | done | rfl) ?_; (with_reducible refine (watchmanref08_Get.calls k a0_0 a0_1 _ _ l0_2 a1_0 a1_1 t1 t2 t3 t4 t5 t6 _ _ ?s1 ?s2 E2.out).mono ?_); (case s1 => exact Kd.C_below HR0.out HT.out.below); (case s2 => exact HC0.out); rintro e_ w_30 ⟨rfl, hb⟩; refine ⟨_, rfl, ?_⟩; replace HT := Aside0.mk (HT.out.step hb); clear hb; have hx0_b := (HT.out.bx 2 rfl 0).trans rfl; have hx1_b := (HT.out.bx 2 rfl 1).trans rfl; have hx2_b := (HT.out.bx 2 rfl 2).trans rfl; have hz_b := (HT.out.far 2 rfl (k := g_b) rfl).1; have hf0_ := HT.out.fz 0 rfl 0; have hf1_ := HT.out.fz 0 rfl 1; have hf2_ := HT.out.fz 0 rfl 2; have hx0_r := (HT.out.bx 0 rfl 0).trans rfl; have hx1_r := (HT.out.bx 0 rfl 1).trans rfl; have hx2_r := (HT.out.bx 0 rfl 2).trans rfl; have hz_r := (HT.out.far 0 rfl (k := g_r) rfl).1))
    replace HT := Aside0.mk (HT.out.pushB #[.int .i64 t1, .int .i64 t2, .int .i64 t3, .int .i64 t4, .int .i64 t5, .int .i64 t6] 28)
    generalize w_30.alloc _ = wn at HT ⊢
    have HTn := HT
    clear HT
    have HL := Aside0.mk hl
    have hll : (l0_2.length : Int) ≤ 1000000 := by omega
    clear hl
    go_cut [8] (fun v8 wc => v8 = .int .i64 (n : Int) ∧ Aside0 (Below wn.heap.size wn wc))
    case first =>
      go_wp2
      go_loopw [8] (fun v8 wr => ∃ i : Int, v8 = .int .i64 i ∧ 0 ≤ i ∧ i ≤ l0_2.length ∧ Aside0 (∀ x ∈ l0_2.take i.toNat, (watchmanref08_Put.lt a1_0 a1_1) x = true) ∧ Aside0 (Below wn.heap.size wn wr)) (fun v8 _ => l0_2.length - (intOf v8).toNat)
      case atStart => exact ⟨0, rfl, by omega, by omega, ⟨by simp⟩, ⟨Below.refl _ _⟩⟩
      case round =>
        obtain ⟨i, rfl, p_, q_, HP, HB⟩ := hrel
        have HT := Aside0.mk (HTn.out.step HB.out)
        clear HTn
        have hxb0 := (HT.out.bx 3 rfl 0).trans rfl; have hxb1 := (HT.out.bx 3 rfl 1).trans rfl; have hxb2 := (HT.out.bx 3 rfl 2).trans rfl
        by_cases hlt : i < (l0_2.length : Int)
        · obtain ⟨ad, e_, hy0, hy1, hy2, hy3, hy4, hy5⟩ := at_T28 HR0.out i p_ hlt
          cases e_
          have h1 : i.toNat < l0_2.length := by omega
          have hel : (rd_T28 l0_2 i) = l0_2[i.toNat] := by simp only [rd_T28, List.getD_eq_getElem?_getD, List.getElem?_eq_getElem h1, Option.getD_some]
          replace hel := Aside0.mk hel
          have hLe := Aside0.mk (watchmanref08_Put.lt_ev a1_0 a1_1 (rd_T28 l0_2 i))
          by_cases hp : (watchmanref08_Put.lt a1_0 a1_1) (rd_T28 l0_2 i) = true
          · have HP2 : ∀ x ∈ l0_2.take (i + 1).toNat, (watchmanref08_Put.lt a1_0 a1_1) x = true := by
              have e1 : (i + 1).toNat = i.toNat + 1 := by omega
              intro x hx
              rw [e1, List.take_add_one, List.getElem?_eq_getElem h1, List.mem_append] at hx
              rcases hx with hx | hx
              · exact HP.out x hx
              · have : x = l0_2[i.toNat] := by simpa using hx
                rw [this, ← hel.out]
                exact hp
            replace HP2 := Aside0.mk HP2
            go_wp2
            replace HT := Aside0.mk (HT.out.step (T.below_drew_ _))
            replace HB := Aside0.mk (below_drew1 HB.out)
            refine start_ (n := 16) (S := fun w' => w'.cell? ⟨g_b, 0, none⟩ = some (.int .i64 a0_0) ∧ w'.cell? ⟨g_b, 1, none⟩ = some (.int .i64 a0_1) ∧ w'.cell? ⟨g_b, 2, none⟩ = some (.slice (some ad) l0_2.length c0_2) ∧ w'.cell? ⟨g_a, 0, none⟩ = some (.int .i64 a1_0) ∧ w'.cell? ⟨g_a, 1, none⟩ = some (.int .i64 a1_1) ∧ w'.cell? ⟨g_a, 2, none⟩ = some (.int .i64 a1_2) ∧ w'.cell? ⟨g_a, 3, none⟩ = some (.int .i64 a1_3) ∧ w'.cell? ⟨g_a, 4, none⟩ = some (.int .i64 a1_4) ∧ w'.cell? ⟨g_a, 5, none⟩ = some (.int .i64 a1_5) ∧ w'.cell? (ad.add (i.toNat * 6)) = some (.int .i64 (rd_T28 l0_2 i).f0.f0) ∧ w'.cell? ⟨(ad.add (i.toNat * 6)).block, (ad.add (i.toNat * 6)).off + 1, none⟩ = some (.int .i64 (rd_T28 l0_2 i).f0.f1)) (ds := []) #[false, false, false, false, false, false, false, false, false, false, false, false, false, false, false, false] (by kernel_rfl) rfl rfl ⟨(HT.out.bx 3 rfl 0).trans rfl, (HT.out.bx 3 rfl 1).trans rfl, (HT.out.bx 3 rfl 2).trans rfl, (HT.out.bx 2 rfl 0).trans rfl, (HT.out.bx 2 rfl 1).trans rfl, (HT.out.bx 2 rfl 2).trans rfl, (HT.out.bx 2 rfl 3).trans rfl, (HT.out.bx 2 rfl 4).trans rfl, (HT.out.bx 2 rfl 5).trans rfl, (HT.out.below.cell (World.block_lt_of_cell? w _ hy0)).trans hy0, (HT.out.below.cell (World.block_lt_of_cell? w _ hy1)).trans hy1⟩ (fun hHeld => ?_); refine with_tabW watchmanref08_Put.tab7 watchmanref08_Put.bits7 (fun HT_ HW_ => ?_)
            generalize wr.drew = w_r7 at HT HB hHeld ⊢
            have Q_ := Qs.mk (n := 16) [(0, 0, 44, 1), (0, 1, 45, 3), (2, 2, 46, 7), (0, 3, 47, 15), (0, 4, 48, 31), (0, 5, 49, 63), (0, 6, 50, 127), (0, 8, 52, 383), (0, 12, 56, 4479), (2, 7, 51, 4607), (0, 9, 53, 5119), (0, 10, 54, 6143), (2, 11, 55, 8191), (2, 13, 57, 16383)]
            iterate 14 (first | (obtain ⟨q_, Q_⟩ := Qs.p Q_; refine pureQ_ q_ (v := ?_) (a' := ?_) rfl rfl (any_of HT_.out (by kernel_rfl)) (fun _ _ _ h => h) (Or.inl ⟨by rfl, ?_⟩) ?_ ?_; rotate_left; (intro w'; go_simp; (first | (with_reducible rfl) | rfl)); rotate_left; (simp only [Act.put, List.setIfInBounds_toArray, List.set_cons_zero, List.set_cons_succ, i64_w, i32_w]; rfl)) | (obtain ⟨q_, Q_⟩ := Qs.t Q_; refine takeQ_ q_ (v := ?_) (a' := ?_) rfl rfl (take_ofW HT_.out HW_.out (by kernel_rfl)) (fun _ _ _ h => h) (Or.inl ⟨by rfl, ?_⟩) hHeld ?_ ?_; rotate_left; (rintro w' ⟨s0, s1, s2, s3, s4, s5, s6, s7, s8, s9, s10⟩; go_simp; (first | (with_reducible rfl) | rfl)); rotate_left; (simp only [Act.put, List.setIfInBounds_toArray, List.set_cons_zero, List.set_cons_succ, i64_w, i32_w]; rfl)))
            clear Q_
            refine one_ (i := 14) (N := some 58) (bt_ 32767 16) rfl rfl (one_of HT_.out (by kernel_rfl)) (by decide) (fun K hK => ?_)
            refine goes_ Try.func56 (by kernel_rfl) rfl #[.agg #[.int .i64 (rd_T28 l0_2 i).f0.f0, .int .i64 (rd_T28 l0_2 i).f0.f1], .agg #[.int .i64 a1_0, .int .i64 a1_1]] (by rfl) rfl rfl (by (try simp only [List.map_toArray, List.map_cons, List.map_nil]); first | done | rfl) ?_
            (with_reducible refine (watchmanref04_Less.calls (rd_T28 l0_2 i).f0.f0 (rd_T28 l0_2 i).f0.f1 a1_0 a1_1 true _ (hLe.out.trans (congrArg some hp))).mono ?_)
            rintro e_ w_58 ⟨rfl, hb⟩; refine ⟨_, rfl, ?_⟩; replace HB := Aside0.mk (below_step HB.out hb); replace HT := Aside0.mk (HT.out.step hb); clear hb
            refine hK.out _ _ ⟨(HT.out.bx 3 rfl 0).trans rfl, (HT.out.bx 3 rfl 1).trans rfl, (HT.out.bx 3 rfl 2).trans rfl, (HT.out.bx 2 rfl 0).trans rfl, (HT.out.bx 2 rfl 1).trans rfl, (HT.out.bx 2 rfl 2).trans rfl, (HT.out.bx 2 rfl 3).trans rfl, (HT.out.bx 2 rfl 4).trans rfl, (HT.out.bx 2 rfl 5).trans rfl, (HT.out.below.cell (World.block_lt_of_cell? w _ hy0)).trans hy0, (HT.out.below.cell (World.block_lt_of_cell? w _ hy1)).trans hy1⟩ (fun hHeld => ?_); clear hK K; refine norm_ (a' := ?_) ?_ ?_
            rotate_left
            · show Act.put _ (some 58) _ = _
              simp only [Act.put, List.setIfInBounds_toArray, List.set_cons_zero, List.set_cons_succ, i64_w, i32_w]
              rfl
            have Q_ := Qs.mk (n := 16) [(0, 15, 59, 65535)]
            iterate 1 (first | (obtain ⟨q_, Q_⟩ := Qs.p Q_; refine pureQ_ q_ (v := ?_) (a' := ?_) rfl rfl (any_of HT_.out (by kernel_rfl)) (fun _ _ _ h => h) (Or.inl ⟨by rfl, ?_⟩) ?_ ?_; rotate_left; (intro w'; go_simp; (first | (with_reducible rfl) | rfl)); rotate_left; (simp only [Act.put, List.setIfInBounds_toArray, List.set_cons_zero, List.set_cons_succ, i64_w, i32_w]; rfl)))
            clear Q_
            refine done_ (done_of HT_.out (by kernel_rfl)) ?_; clear hHeld
            go_wp2
            go_roundw
            case rel => exact ⟨i + 1, rfl, by omega, by omega, HP2, HB⟩
            case measure => simp [intOf]; omega
          · replace hp := Bool.eq_false_iff.mpr hp
            have hni : (n : Int) = i := by
              have := watchmanref08_Put.at_ (watchmanref08_Put.lt a1_0 a1_1) l0_2 i.toNat (by omega) HP.out (fun _ => by rw [← hel.out]; exact hp)
              have h2 := hn.out
              unfold watchmanref08_Put.at' at h2
              omega
            go_wp2
            replace HT := Aside0.mk (HT.out.step (T.below_drew_ _))
            replace HB := Aside0.mk (below_drew1 HB.out)
            refine start_ (n := 16) (S := fun w' => w'.cell? ⟨g_b, 0, none⟩ = some (.int .i64 a0_0) ∧ w'.cell? ⟨g_b, 1, none⟩ = some (.int .i64 a0_1) ∧ w'.cell? ⟨g_b, 2, none⟩ = some (.slice (some ad) l0_2.length c0_2) ∧ w'.cell? ⟨g_a, 0, none⟩ = some (.int .i64 a1_0) ∧ w'.cell? ⟨g_a, 1, none⟩ = some (.int .i64 a1_1) ∧ w'.cell? ⟨g_a, 2, none⟩ = some (.int .i64 a1_2) ∧ w'.cell? ⟨g_a, 3, none⟩ = some (.int .i64 a1_3) ∧ w'.cell? ⟨g_a, 4, none⟩ = some (.int .i64 a1_4) ∧ w'.cell? ⟨g_a, 5, none⟩ = some (.int .i64 a1_5) ∧ w'.cell? (ad.add (i.toNat * 6)) = some (.int .i64 (rd_T28 l0_2 i).f0.f0) ∧ w'.cell? ⟨(ad.add (i.toNat * 6)).block, (ad.add (i.toNat * 6)).off + 1, none⟩ = some (.int .i64 (rd_T28 l0_2 i).f0.f1)) (ds := []) #[false, false, false, false, false, false, false, false, false, false, false, false, false, false, false, false] (by kernel_rfl) rfl rfl ⟨(HT.out.bx 3 rfl 0).trans rfl, (HT.out.bx 3 rfl 1).trans rfl, (HT.out.bx 3 rfl 2).trans rfl, (HT.out.bx 2 rfl 0).trans rfl, (HT.out.bx 2 rfl 1).trans rfl, (HT.out.bx 2 rfl 2).trans rfl, (HT.out.bx 2 rfl 3).trans rfl, (HT.out.bx 2 rfl 4).trans rfl, (HT.out.bx 2 rfl 5).trans rfl, (HT.out.below.cell (World.block_lt_of_cell? w _ hy0)).trans hy0, (HT.out.below.cell (World.block_lt_of_cell? w _ hy1)).trans hy1⟩ (fun hHeld => ?_); refine with_tabW watchmanref08_Put.tab7 watchmanref08_Put.bits7 (fun HT_ HW_ => ?_)
            generalize wr.drew = w_r7 at HT HB hHeld ⊢
            have Q_ := Qs.mk (n := 16) [(0, 0, 44, 1), (0, 1, 45, 3), (2, 2, 46, 7), (0, 3, 47, 15), (0, 4, 48, 31), (0, 5, 49, 63), (0, 6, 50, 127), (0, 8, 52, 383), (0, 12, 56, 4479), (2, 7, 51, 4607), (0, 9, 53, 5119), (0, 10, 54, 6143), (2, 11, 55, 8191), (2, 13, 57, 16383)]
            iterate 14 (first | (obtain ⟨q_, Q_⟩ := Qs.p Q_; refine pureQ_ q_ (v := ?_) (a' := ?_) rfl rfl (any_of HT_.out (by kernel_rfl)) (fun _ _ _ h => h) (Or.inl ⟨by rfl, ?_⟩) ?_ ?_; rotate_left; (intro w'; go_simp; (first | (with_reducible rfl) | rfl)); rotate_left; (simp only [Act.put, List.setIfInBounds_toArray, List.set_cons_zero, List.set_cons_succ, i64_w, i32_w]; rfl)) | (obtain ⟨q_, Q_⟩ := Qs.t Q_; refine takeQ_ q_ (v := ?_) (a' := ?_) rfl rfl (take_ofW HT_.out HW_.out (by kernel_rfl)) (fun _ _ _ h => h) (Or.inl ⟨by rfl, ?_⟩) hHeld ?_ ?_; rotate_left; (rintro w' ⟨s0, s1, s2, s3, s4, s5, s6, s7, s8, s9, s10⟩; go_simp; (first | (with_reducible rfl) | rfl)); rotate_left; (simp only [Act.put, List.setIfInBounds_toArray, List.set_cons_zero, List.set_cons_succ, i64_w, i32_w]; rfl)))
            clear Q_
            refine one_ (i := 14) (N := some 58) (bt_ 32767 16) rfl rfl (one_of HT_.out (by kernel_rfl)) (by decide) (fun K hK => ?_)
            refine goes_ Try.func56 (by kernel_rfl) rfl #[.agg #[.int .i64 (rd_T28 l0_2 i).f0.f0, .int .i64 (rd_T28 l0_2 i).f0.f1], .agg #[.int .i64 a1_0, .int .i64 a1_1]] (by rfl) rfl rfl (by (try simp only [List.map_toArray, List.map_cons, List.map_nil]); first | done | rfl) ?_
            (with_reducible refine (watchmanref04_Less.calls (rd_T28 l0_2 i).f0.f0 (rd_T28 l0_2 i).f0.f1 a1_0 a1_1 false _ (hLe.out.trans (congrArg some hp))).mono ?_)
            rintro e_ w_58 ⟨rfl, hb⟩; refine ⟨_, rfl, ?_⟩; replace HB := Aside0.mk (below_step HB.out hb); replace HT := Aside0.mk (HT.out.step hb); clear hb
            refine hK.out _ _ ⟨(HT.out.bx 3 rfl 0).trans rfl, (HT.out.bx 3 rfl 1).trans rfl, (HT.out.bx 3 rfl 2).trans rfl, (HT.out.bx 2 rfl 0).trans rfl, (HT.out.bx 2 rfl 1).trans rfl, (HT.out.bx 2 rfl 2).trans rfl, (HT.out.bx 2 rfl 3).trans rfl, (HT.out.bx 2 rfl 4).trans rfl, (HT.out.bx 2 rfl 5).trans rfl, (HT.out.below.cell (World.block_lt_of_cell? w _ hy0)).trans hy0, (HT.out.below.cell (World.block_lt_of_cell? w _ hy1)).trans hy1⟩ (fun hHeld => ?_); clear hK K; refine norm_ (a' := ?_) ?_ ?_
            rotate_left
            · show Act.put _ (some 58) _ = _
              simp only [Act.put, List.setIfInBounds_toArray, List.set_cons_zero, List.set_cons_succ, i64_w, i32_w]
              rfl
            have Q_ := Qs.mk (n := 16) [(0, 15, 59, 65535)]
            iterate 1 (first | (obtain ⟨q_, Q_⟩ := Qs.p Q_; refine pureQ_ q_ (v := ?_) (a' := ?_) rfl rfl (any_of HT_.out (by kernel_rfl)) (fun _ _ _ h => h) (Or.inl ⟨by rfl, ?_⟩) ?_ ?_; rotate_left; (intro w'; go_simp; (first | (with_reducible rfl) | rfl)); rotate_left; (simp only [Act.put, List.setIfInBounds_toArray, List.set_cons_zero, List.set_cons_succ, i64_w, i32_w]; rfl)))
            clear Q_
            refine done_ (done_of HT_.out (by kernel_rfl)) ?_; clear hHeld
            go_wp2
            go_meet
            case rel => exact ⟨by rw [hni], HB⟩
        · have hni : (n : Int) = i := by
            have := watchmanref08_Put.at_ (watchmanref08_Put.lt a1_0 a1_1) l0_2 i.toNat (by omega) HP.out (fun h => absurd h (by omega))
            have h2 := hn.out
            unfold watchmanref08_Put.at' at h2
            omega
          obtain rfl : i = (l0_2.length : Int) := by omega
          go_wp2
          replace HT := Aside0.mk (HT.out.step (T.below_drew_ _))
          replace HB := Aside0.mk (below_drew1 HB.out)
          refine start_ (n := 16) (S := fun w' => w'.cell? ⟨g_b, 0, none⟩ = some (.int .i64 a0_0) ∧ w'.cell? ⟨g_b, 1, none⟩ = some (.int .i64 a0_1) ∧ w'.cell? ⟨g_b, 2, none⟩ = some (.slice A0_2 l0_2.length c0_2) ∧ w'.cell? ⟨g_a, 0, none⟩ = some (.int .i64 a1_0) ∧ w'.cell? ⟨g_a, 1, none⟩ = some (.int .i64 a1_1) ∧ w'.cell? ⟨g_a, 2, none⟩ = some (.int .i64 a1_2) ∧ w'.cell? ⟨g_a, 3, none⟩ = some (.int .i64 a1_3) ∧ w'.cell? ⟨g_a, 4, none⟩ = some (.int .i64 a1_4) ∧ w'.cell? ⟨g_a, 5, none⟩ = some (.int .i64 a1_5)) (ds := []) #[false, false, false, false, false, false, false, false, false, false, false, false, false, false, false, false] (by kernel_rfl) rfl rfl ⟨(HT.out.bx 3 rfl 0).trans rfl, (HT.out.bx 3 rfl 1).trans rfl, (HT.out.bx 3 rfl 2).trans rfl, (HT.out.bx 2 rfl 0).trans rfl, (HT.out.bx 2 rfl 1).trans rfl, (HT.out.bx 2 rfl 2).trans rfl, (HT.out.bx 2 rfl 3).trans rfl, (HT.out.bx 2 rfl 4).trans rfl, (HT.out.bx 2 rfl 5).trans rfl⟩ (fun hHeld => ?_); refine with_tabW watchmanref08_Put.tab7 watchmanref08_Put.bits7 (fun HT_ HW_ => ?_)
          generalize wr.drew = w_r7 at HT HB hHeld ⊢
          have Q_ := Qs.mk (n := 16) [(0, 0, 44, 1), (0, 1, 45, 3), (2, 2, 46, 7), (0, 3, 47, 15), (0, 4, 48, 31), (0, 5, 49, 63), (1, 6, 50, 127), (1, 8, 52, 383), (1, 12, 56, 4479), (1, 7, 51, 4607), (1, 9, 53, 5119), (1, 10, 54, 6143), (1, 11, 55, 8191), (1, 13, 57, 16383), (1, 14, 58, 32767), (0, 15, 59, 65535)]
          iterate 16 (first | (obtain ⟨q_, Q_⟩ := Qs.p Q_; refine pureQ_ q_ (v := ?_) (a' := ?_) rfl rfl (any_of HT_.out (by kernel_rfl)) (fun _ _ _ h => h) (Or.inl ⟨by rfl, ?_⟩) ?_ ?_; rotate_left; (intro w'; go_simp; (first | (with_reducible rfl) | rfl)); rotate_left; (simp only [Act.put, List.setIfInBounds_toArray, List.set_cons_zero, List.set_cons_succ, i64_w, i32_w]; rfl)) | (obtain ⟨q_, Q_⟩ := Qs.u Q_; refine pureQ_ q_ (v := undef) (a' := ?_) rfl rfl (any_of HT_.out (by kernel_rfl)) (fun _ _ _ h => h) (Or.inr ⟨by rfl, rfl⟩) ?_ ?_; rotate_left; (simp only [Act.put, List.setIfInBounds_toArray, List.set_cons_zero, List.set_cons_succ, i64_w, i32_w]; rfl)) | (obtain ⟨q_, Q_⟩ := Qs.t Q_; refine takeQ_ q_ (v := ?_) (a' := ?_) rfl rfl (take_ofW HT_.out HW_.out (by kernel_rfl)) (fun _ _ _ h => h) (Or.inl ⟨by rfl, ?_⟩) hHeld ?_ ?_; rotate_left; (rintro w' ⟨s0, s1, s2, s3, s4, s5, s6, s7, s8⟩; go_simp; (first | (with_reducible rfl) | rfl)); rotate_left; (simp only [Act.put, List.setIfInBounds_toArray, List.set_cons_zero, List.set_cons_succ, i64_w, i32_w]; rfl)))
          clear Q_
          refine done_ (done_of HT_.out (by kernel_rfl)) ?_; clear hHeld
          go_wp2
          go_meet
          case rel => exact ⟨by rw [hni], HB⟩
    case rest =>
      obtain ⟨rfl, HB⟩ := hcut
      have HTc := Aside0.mk (HTn.out.step HB.out)
      clear HTn HB
      have HT := HTc
      have HB2 := Aside0.mk (Below.refl wc.heap.size wc)
      have hxb0 := (HT.out.bx 3 rfl 0).trans rfl; have hxb1 := (HT.out.bx 3 rfl 1).trans rfl; have hxb2 := (HT.out.bx 3 rfl 2).trans rfl; have hxa0 := (HT.out.bx 2 rfl 0).trans rfl; have hxa1 := (HT.out.bx 2 rfl 1).trans rfl; have hxa2 := (HT.out.bx 2 rfl 2).trans rfl; have hxa3 := (HT.out.bx 2 rfl 3).trans rfl; have hxa4 := (HT.out.bx 2 rfl 4).trans rfl; have hxa5 := (HT.out.bx 2 rfl 5).trans rfl; have hxr0 := (HT.out.bx 1 rfl 0).trans rfl; have hfr0 := HT.out.fz 1 rfl 0; have hxr1 := (HT.out.bx 1 rfl 1).trans rfl; have hfr1 := HT.out.fz 1 rfl 1; have hxr2 := (HT.out.bx 1 rfl 2).trans rfl; have hfr2 := HT.out.fz 1 rfl 2
      obtain ⟨i0, hi0, _, hsz, _⟩ := info_parts info28
      have hcut1 := cut_to (P := Try.prog) 22 28 .i64 Try.underlying22 hi0 A0_2 l0_2.length c0_2 (n : Int) (by omega) (by omega) HC0.out
      rw [show ((n : Int)).toNat = n from by omega] at hcut1
      have hC1 := Kd.C_take (m := n) HR0.out (by omega)
      rw [List.length_take, Nat.min_eq_left (by omega : n ≤ l0_2.length)] at hC1
      replace hC1 := Aside0.mk hC1
      first
        | (have hcut2 := cut_from (P := Try.prog) 22 28 .i64 Try.underlying22 hi0 _ hsz A0_2 l0_2.length c0_2 ((n : Int) + 1) (by omega) (by omega); rw [show (((n : Int) + 1)).toNat = n + 1 from by omega] at hcut2; have hC2 := Kd.C_drop (m := n + 1) HR0.out (by omega) HC0.out; rw [List.length_drop] at hC2; obtain ⟨B, hB⟩ : ∃ B : Option Addr, (if c0_2 = n + 1 then A0_2 else A0_2.map (·.add ((n + 1) * 6))) = B := ⟨_, rfl⟩; replace hcut2 : ∀ W : World, (Instr.slice 22 (.slice A0_2 l0_2.length c0_2) (some (.int .i64 ((n : Int) + 1))) none none).run Try.prog W = .ok (.slice B (l0_2.length - (n + 1)) (c0_2 - (n + 1))) W := fun W => (hcut2 W).trans (by rw [← hB]); replace hC2 : Kd.C k28 w B (l0_2.length - (n + 1)) D := (by rw [← hB, hD.out]; exact hC2); clear hB; replace hC2 := Aside0.mk hC2)
        | (have hcut2 := cut_from (P := Try.prog) 22 28 .i64 Try.underlying22 hi0 _ hsz A0_2 l0_2.length c0_2 (n : Int) (by omega) (by omega); rw [show ((n : Int)).toNat = n from by omega] at hcut2; have hC2 := Kd.C_drop (m := n) HR0.out (by omega) HC0.out; rw [List.length_drop] at hC2; obtain ⟨B, hB⟩ : ∃ B : Option Addr, (if c0_2 = n then A0_2 else A0_2.map (·.add ((n) * 6))) = B := ⟨_, rfl⟩; replace hcut2 : ∀ W : World, (Instr.slice 22 (.slice A0_2 l0_2.length c0_2) (some (.int .i64 (n : Int))) none none).run Try.prog W = .ok (.slice B (l0_2.length - (n)) (c0_2 - (n))) W := fun W => (hcut2 W).trans (by rw [← hB]); replace hC2 : Kd.C k28 w B (l0_2.length - (n)) D := (by rw [← hB, hD.out]; exact hC2); clear hB; replace hC2 := Aside0.mk hC2)
      clear hi0 hsz
      obtain ⟨y1, hy1⟩ : ∃ y : List S28, y = [] ++ l0_2.take n := ⟨_, rfl⟩
      obtain ⟨y2, hy2⟩ : ∃ y : List S28, y = y1 ++ [(⟨(⟨a1_0, a1_1⟩ : S26), a1_2, a1_3, a1_4, a1_5⟩ : S28)] := ⟨_, rfl⟩
      obtain ⟨y3, hy3⟩ : ∃ y : List S28, y = y2 ++ D := ⟨_, rfl⟩
      have LY := Aside0.mk (show y1.length ≤ 1000000 ∧ y2.length ≤ 1000001 from by rw [hy2, List.length_append, hy1, List.nil_append, List.length_take, List.length_singleton]; omega)
      have N1 := Aside0.mk hy1; have N2 := Aside0.mk hy2; have N3 := Aside0.mk hy3
      clear hy1 hy2 hy3
      go_wp2_with (first | ((with_reducible refine gate_builtin (b := .append) (xs := #[.tmp 62, .tmp 66]) rfl ?_); at_builtin; refine Kd.R_append_rows k28 (w0 := wc) wc.heap.size rfl (.tmp 62) (.tmp 66) 22 28 (.agg #[.int .i64 0, .int .i64 0, .int .i64 0, .int .i64 0, .int .i64 0, .int .i64 0]) 48 rfl Try.underlying22 info28 rfl (by decide) (by omega) (.slice none 0 0) ([] : List S28) (l0_2.take n) _ _ _ (fun _ => True) (fun _ => False) rfl rfl ?aO ?aR (fun _ _ h => h) (fun _ h => h.elim) (fun _ _ => trivial) ?aB ?aS ?aL ?_; (case aR => exact Kd.C_below hC1.out HT.out.below); (case aO => exact Kd.R_nil _ _ _ _ _); (case aB => exact HB2.out); (case aS => exact HB2.out.size); (case aL => have := HL.out; have := LY.out; (try simp only [List.length_nil]); omega); intro v1 w1 ho hb _ _; rw [← N1.out] at ho; clear HT HB2; have HB2 := Aside0.mk hb; have HT := Aside0.mk (HTc.out.step hb); obtain ⟨A_1, c_1, rfl⟩ := Kd.R_slice ho; have HO1 := Aside0.mk ho; clear ho hb; have hxa0 := (HT.out.bx 2 rfl 0).trans rfl; have hxa1 := (HT.out.bx 2 rfl 1).trans rfl; have hxa2 := (HT.out.bx 2 rfl 2).trans rfl; have hxa3 := (HT.out.bx 2 rfl 3).trans rfl; have hxa4 := (HT.out.bx 2 rfl 4).trans rfl; have hxa5 := (HT.out.bx 2 rfl 5).trans rfl) | ((with_reducible refine gate_builtin (b := .append) (xs := #[.tmp 68, .tmp 70]) rfl ?_); at_builtin; refine Kd.R_append k28 (w0 := wc) wc.heap.size rfl (.tmp 68) (.tmp 70) 22 28 (.agg #[.int .i64 0, .int .i64 0, .int .i64 0, .int .i64 0, .int .i64 0, .int .i64 0]) 48 rfl Try.underlying22 info28 rfl (by decide) (by omega) (.slice A_1 y1.length c_1) y1 (⟨(⟨a1_0, a1_1⟩ : S26), a1_2, a1_3, a1_4, a1_5⟩ : S28) [.int .i64 a1_0, .int .i64 a1_1, .int .i64 a1_2, .int .i64 a1_3, .int .i64 a1_4, .int .i64 a1_5] (fun _ => True) (fun _ => False) rfl rfl ?aP (fun _ hk => hk.elim) (fun _ _ => trivial) HO1.out HB2.out ?aS ?aL ?_; (case aP => exact k28_mkM _ _ _ (⟨(⟨a1_0, a1_1⟩ : S26), a1_2, a1_3, a1_4, a1_5⟩ : S28)); (case aS => exact HB2.out.size); (case aL => have := LY.out; omega); intro v1 w2 ho hb _ _; rw [← N2.out] at ho; clear HT HB2 HO1; have HB2 := Aside0.mk hb; have HT := Aside0.mk (HTc.out.step hb); obtain ⟨A_2, c_2, rfl⟩ := Kd.R_slice ho; have HO2 := Aside0.mk ho; clear ho hb; have hxb0 := (HT.out.bx 3 rfl 0).trans rfl; have hxb1 := (HT.out.bx 3 rfl 1).trans rfl; have hxb2 := (HT.out.bx 3 rfl 2).trans rfl) | ((with_reducible refine gate_builtin (b := .append) (xs := #[.tmp 75, .tmp 79]) rfl ?_); at_builtin; refine Kd.R_append_rows k28 (w0 := wc) wc.heap.size rfl (.tmp 75) (.tmp 79) 22 28 (.agg #[.int .i64 0, .int .i64 0, .int .i64 0, .int .i64 0, .int .i64 0, .int .i64 0]) 48 rfl Try.underlying22 info28 rfl (by decide) (by omega) (.slice A_2 y2.length c_2) y2 (D) _ _ _ (fun _ => True) (fun _ => False) rfl rfl ?aO ?aR (fun _ _ h => h) (fun _ h => h.elim) (fun _ _ => trivial) ?aB ?aS ?aL ?_; (case aR => exact Kd.C_below hC2.out HT.out.below); (case aO => exact HO2.out); (case aB => exact HB2.out); (case aS => exact HB2.out.size); (case aL => have := HL.out; have := LY.out; (try simp only [List.length_nil]); omega); intro v1 w3 ho hb _ _; rw [← N3.out] at ho; clear HT HB2 HO2; have HB2 := Aside0.mk hb; have HT := Aside0.mk (HTc.out.step hb); obtain ⟨A_3, c_3, rfl⟩ := Kd.R_slice ho; have HO3 := Aside0.mk ho; clear ho hb; have hxb0 := (HT.out.bx 3 rfl 0).trans rfl; have hxb1 := (HT.out.bx 3 rfl 1).trans rfl; have hxb2 := (HT.out.bx 3 rfl 2).trans rfl; have hxr0 := (HT.out.bx 1 rfl 0).trans rfl; have hfr0 := HT.out.fz 1 rfl 0; have hxr1 := (HT.out.bx 1 rfl 1).trans rfl; have hfr1 := HT.out.fz 1 rfl 1; have hxr2 := (HT.out.bx 1 rfl 2).trans rfl; have hfr2 := HT.out.fz 1 rfl 2))
      replace HT := Aside0.mk (HTc.out.pushR HO3.out HB2.out)
      have hfin : y3 = l0_2.take n ++ (⟨(⟨a1_0, a1_1⟩ : S26), a1_2, a1_3, a1_4, a1_5⟩ : S28) :: D := by rw [N3.out, N2.out, N1.out, List.nil_append, List.append_assoc]; rfl
      rw [← hfin]
      have HF := (((HT.out.put 2 rfl 0 (.int .i64 a0_0)).put 2 rfl 1 (.int .i64 a0_1)).put 2 rfl 2 (.slice A_3 y3.length c_3))
      refine bodyPost_ret (results_ct rfl _ _ g_r 24 #[.int .i64 a0_0, .int .i64 a0_1, .slice A_3 y3.length c_3] (0, 0) _ rfl (HF.get 2 rfl) Try.underlying24 rfl (by kernel_rfl)) rfl ?_
      exact ⟨_, rfl, Kd.R_mono (HF.get 0 rfl) (fun _ _ => trivial), HF.below⟩
theorem watchmanref08_Put.calls (k : Nat) (a0_0 a0_1 : Int) (A0_2 : Option Addr) (c0_2 : Nat) (l0_2 : List S28) (a1_0 a1_1 a1_2 a1_3 a1_4 a1_5 : Int) (r1 r2 : Int) (r3 : List S28) (r4 : Int) (w : World) (hr0_2 : Kd.C k28 w A0_2 l0_2.length l0_2) (hc0_2 : l0_2.length ≤ c0_2) (h : watchmanref08_Put.f k a0_0 a0_1 l0_2 a1_0 a1_1 a1_2 a1_3 a1_4 a1_5 = some (r1, r2, r3, r4)) :
    Calls Try.prog 16 #[.agg #[.int .i64 a0_0, .int .i64 a0_1, .slice A0_2 l0_2.length c0_2], .agg #[.int .i64 a1_0, .int .i64 a1_1, .int .i64 a1_2, .int .i64 a1_3, .int .i64 a1_4, .int .i64 a1_5]] w fun e w' => ∃ v2_ : Value, e = .returned (.tuple #[.agg #[.int .i64 r1, .int .i64 r2, v2_], .int .i64 r4]) ∧ Kd.R k28 28 w' w.heap.size (fun _ => True) v2_ r3 ∧ Below w.heap.size w w' := by
  obtain ⟨t, h1, h⟩ := Option.bind_eq_some_iff.mp h
  cases t with
  | false =>
    rw [if_neg (by decide)] at h
    obtain ⟨rfl, rfl, rfl, rfl⟩ : 0 = r1 ∧ 0 = r2 ∧ [] = r3 ∧ 1 = r4 := by simpa only [Option.some.injEq, Prod.mk.injEq] using h
    exact watchmanref08_Put.e1 k a0_0 a0_1 A0_2 c0_2 l0_2 a1_0 a1_1 a1_2 a1_3 a1_4 a1_5 w hr0_2 hc0_2 h1
  | true =>
    rw [if_pos rfl] at h
    obtain ⟨u, h2, h⟩ := Option.bind_eq_some_iff.mp h
    cases u with
    | false =>
      rw [if_neg (by decide)] at h
      obtain ⟨rfl, rfl, rfl, rfl⟩ : 0 = r1 ∧ 0 = r2 ∧ [] = r3 ∧ 1 = r4 := by simpa only [Option.some.injEq, Prod.mk.injEq] using h
      exact watchmanref08_Put.e2 k a0_0 a0_1 A0_2 c0_2 l0_2 a1_0 a1_1 a1_2 a1_3 a1_4 a1_5 w hr0_2 hc0_2 h1 h2
    | true =>
      rw [if_pos rfl] at h
      by_cases hg : a1_4 > a0_1
      · rw [if_pos hg] at h
        obtain ⟨rfl, rfl, rfl, rfl⟩ : 0 = r1 ∧ 0 = r2 ∧ [] = r3 ∧ 1 = r4 := by simpa only [Option.some.injEq, Prod.mk.injEq] using h
        exact watchmanref08_Put.e3 k a0_0 a0_1 A0_2 c0_2 l0_2 a1_0 a1_1 a1_2 a1_3 a1_4 a1_5 w hr0_2 hc0_2 h1 h2 (decide_eq_true hg)
      · rw [if_neg hg] at h
        replace hg := decide_eq_false hg
        obtain ⟨⟨t1, t2, t3, t4, t5, t6, t7⟩, h3, h⟩ := Option.bind_eq_some_iff.mp h
        cases t7 with
        | false =>
          simp only [Bool.false_eq_true, if_false] at h
          by_cases hf : (l0_2.length : Int) ≥ a0_0
          · rw [if_pos hf] at h
            obtain ⟨rfl, rfl, rfl, rfl⟩ : 0 = r1 ∧ 0 = r2 ∧ [] = r3 ∧ 81 = r4 := by simpa only [Option.some.injEq, Prod.mk.injEq] using h
            exact watchmanref08_Put.e4 k a0_0 a0_1 A0_2 c0_2 l0_2 a1_0 a1_1 a1_2 a1_3 a1_4 a1_5 t1 t2 t3 t4 t5 t6 w hr0_2 hc0_2 h1 h2 hg h3 (decide_eq_true hf)
          · rw [if_neg hf] at h
            replace hf := decide_eq_false hf
            by_cases hl : (watchmanref08_Put.at' a1_0 a1_1 l0_2) + 0 ≤ l0_2.length ∧ l0_2.length < 1000000
            · rw [if_pos hl] at h
              obtain ⟨rfl, rfl, rfl, rfl⟩ : a0_0 = r1 ∧ a0_1 = r2 ∧ _ = r3 ∧ 0 = r4 := by simpa only [Option.some.injEq, Prod.mk.injEq] using h
              exact watchmanref08_Put.main k a0_0 a0_1 A0_2 c0_2 l0_2 a1_0 a1_1 a1_2 a1_3 a1_4 a1_5 t1 t2 t3 t4 t5 t6 false w hr0_2 hc0_2 h1 h2 hg h3 (by rw [hf]; rfl) _ ⟨rfl⟩ hl.1 hl.2 _ ⟨rfl⟩
            · rw [if_neg hl] at h
              cases h
        | true =>
          simp only [if_true] at h
          by_cases hl : (watchmanref08_Put.at' a1_0 a1_1 l0_2) + 1 ≤ l0_2.length ∧ l0_2.length < 1000000
          · rw [if_pos hl] at h
            obtain ⟨rfl, rfl, rfl, rfl⟩ : a0_0 = r1 ∧ a0_1 = r2 ∧ _ = r3 ∧ 0 = r4 := by simpa only [Option.some.injEq, Prod.mk.injEq] using h
            exact watchmanref08_Put.main k a0_0 a0_1 A0_2 c0_2 l0_2 a1_0 a1_1 a1_2 a1_3 a1_4 a1_5 t1 t2 t3 t4 t5 t6 true w hr0_2 hc0_2 h1 h2 hg h3 rfl _ ⟨rfl⟩ hl.1 hl.2 _ ⟨rfl⟩
          · rw [if_neg hl] at h
            cases h

end Go.Proofs.Ytcfpbmdndapeaaa.F
