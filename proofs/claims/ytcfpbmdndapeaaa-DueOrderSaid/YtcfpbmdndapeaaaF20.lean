-- Written by a program of this session (xprint.py), out of the translation and of contracts proved by hand.
import Derived.Test.YtcfpbmdndapeaaaF0
import Derived.Test.YtcfpbmdndapeaaaF3
import Derived.Test.YtcfpbmdndapeaaaF4
import Derived.Test.YtcfpbmdndapeaaaF6
import Derived.Test.YtcfpbmdndapeaaaF10
import Derived.Test.YtcfpbmdndapeaaaF12
import Derived.Test.YtcfpbmdndapeaaaF13
import Derived.Test.YtcfpbmdndapeaaaF18
import Derived.Test.YtcfpbmdndapeaaaF19
namespace Go.Proofs.Ytcfpbmdndapeaaa.F
open Go.RowKit Go.Proofs.YtcfpbmdndapeaaaV.PrintWords Go.Proofs.YtcfpbmdndapeaaaV.PrintLast Go.Proofs.YtcfpbmdndapeaaaV.PrintMore
attribute [local go_sem] max2_int min2_int max_two min_two max_three min_three max_four min_four   -- for this text's walks alone
set_option linter.unusedVariables false
set_option linter.unusedSimpArgs false

/-! ### due_At: function 41 -/
theorem due_At.fld (x0 x1 x2 x3 x4 x5 : Int) (W : World) : (Instr.field 28 (.agg #[.int .i64 x0, .int .i64 x1, .int .i64 x2, .int .i64 x3, .int .i64 x4, .int .i64 x5]) 1).run Try.prog W = .ok (.int .i64 x2) W := by kernel_rfl
def due_At.f (k : Nat) (a0_0 a0_1 : Int) (l0_2 : List S28) (a1_0 a1_1 a2 : Int) : Option (Int × Bool) := (board_Get.f a0_0 a0_1 l0_2 a1_0 a1_1).bind fun g => if g.2.2.2.2.2.2 = true then ((alarm_Pass.f k g.1 g.2.1 g.2.2.1 g.2.2.2.1 g.2.2.2.2.1 g.2.2.2.2.2.1 a2).bind fun p => some (p.2.2.1, true)) else some (0, false)
theorem due_At.e1 (k : Nat) (a0_0 a0_1 : Int) (A0_2 : Option Addr) (c0_2 : Nat) (l0_2 : List S28) (a1_0 a1_1 a2 : Int) (t1 t2 t3 t4 t5 t6 : Int) (w : World) (hr0_2 : Kd.C k28 w A0_2 l0_2.length l0_2) (hc0_2 : l0_2.length ≤ c0_2) (E0 : board_Get.f a0_0 a0_1 l0_2 a1_0 a1_1 = some (t1, t2, t3, t4, t5, t6, false)) :
    Calls Try.prog 41 #[.agg #[.int .i64 a0_0, .int .i64 a0_1, .slice A0_2 l0_2.length c0_2], .agg #[.int .i64 a1_0, .int .i64 a1_1], .int .i64 a2] w fun e w' => e = .returned (.tuple #[.int .i64 0, .bool false]) ∧ Below w.heap.size w w' := by
  have hu0 := Try.underlying24
  have hu1 := Try.underlying28
  have hu2 := Try.underlying26
  have HR0 := Aside0.mk hr0_2
  have HC0 := Aside0.mk hc0_2
  clear hr0_2 hc0_2
  replace E0 := Aside0.mk E0
  have HT := Aside0.mk (T.Tell.init w)
  go_enter Try.func41, Try.ntmps41
  go_wp2_with (first | ((with_reducible refine gate_dst (N := 3) rfl ?_); refine box_event ?hg (N := 3) ?hd (cs := #[.int .i64 a0_0, .int .i64 a0_1, .slice A0_2 l0_2.length c0_2]) (t := 24) ?hr ?_; (case hd => rfl); (case hg => rfl); (case hr => first | (go_simp; done) | (go_simp; rfl)); intro g_b hg w_3 hbox hb; replace HT := Aside0.mk (HT.out.pushBe hbox hg hb); clear hb hbox hg) | ((with_reducible refine gate_dst (N := 4) rfl ?_); refine box_event ?hg (N := 4) ?hd (cs := #[.int .i64 a1_0, .int .i64 a1_1]) (t := 26) ?hr ?_; (case hd => rfl); (case hg => rfl); (case hr => first | (go_simp; done) | (go_simp; rfl)); intro g_s hg w_4 hbox hb; replace HT := Aside0.mk (HT.out.pushBe hbox hg hb); clear hb hbox hg; have hx0_b := (HT.out.bx 1 rfl 0).trans rfl; have hx1_b := (HT.out.bx 1 rfl 1).trans rfl; have hx2_b := (HT.out.bx 1 rfl 2).trans rfl; have hz_b := (HT.out.far 1 rfl (k := g_b) rfl).1; have hx0_s := (HT.out.bx 0 rfl 0).trans rfl; have hx1_s := (HT.out.bx 0 rfl 1).trans rfl) | ((with_reducible refine gate_dst (N := 13) rfl ?_); (try (refine gate_guard (by rfl) ?_; dsimp only)); refine goesL_ (some 13) rfl rfl Try.func21 (by kernel_rfl) rfl #[.agg #[.int .i64 a0_0, .int .i64 a0_1, .slice A0_2 l0_2.length c0_2], .agg #[.int .i64 a1_0, .int .i64 a1_1]] rfl (by (try simp only [List.map_toArray, List.map_cons, List.map_nil]); first | done | rfl) ?_; (with_reducible refine (board_Get.calls a0_0 a0_1 _ _ l0_2 a1_0 a1_1 t1 t2 t3 t4 t5 t6 false _ ?s1 ?s2 E0.out).mono ?_); (case s1 => exact Kd.C_below HR0.out HT.out.below); (case s2 => exact HC0.out); rintro e_ w_13 ⟨rfl, hb⟩; refine ⟨_, rfl, ?_⟩; replace HT := Aside0.mk (HT.out.step hb); clear hb))
  replace HT := Aside0.mk (HT.out.pushB #[.int .i64 t1, .int .i64 t2, .int .i64 t3, .int .i64 t4, .int .i64 t5, .int .i64 t6] 28)
  go_ret2
  exact ⟨rfl, HT.out.below⟩
theorem due_At.main (k : Nat) (a0_0 a0_1 : Int) (A0_2 : Option Addr) (c0_2 : Nat) (l0_2 : List S28) (a1_0 a1_1 a2 : Int) (t1 t2 t3 t4 t5 t6 p1 p2 p3 p4 p5 p6 : Int) (w : World) (hr0_2 : Kd.C k28 w A0_2 l0_2.length l0_2) (hc0_2 : l0_2.length ≤ c0_2) (E0 : board_Get.f a0_0 a0_1 l0_2 a1_0 a1_1 = some (t1, t2, t3, t4, t5, t6, true)) (E1 : alarm_Pass.f k t1 t2 t3 t4 t5 t6 a2 = some (p1, p2, p3, p4, p5, p6)) :
    Calls Try.prog 41 #[.agg #[.int .i64 a0_0, .int .i64 a0_1, .slice A0_2 l0_2.length c0_2], .agg #[.int .i64 a1_0, .int .i64 a1_1], .int .i64 a2] w fun e w' => e = .returned (.tuple #[.int .i64 p3, .bool true]) ∧ Below w.heap.size w w' := by
  have hu0 := Try.underlying24
  have hu1 := Try.underlying28
  have hu2 := Try.underlying26
  have HR0 := Aside0.mk hr0_2
  have HC0 := Aside0.mk hc0_2
  clear hr0_2 hc0_2
  replace E0 := Aside0.mk E0
  replace E1 := Aside0.mk E1
  have hfl := due_At.fld p1 p2 p3 p4 p5 p6
  have HT := Aside0.mk (T.Tell.init w)
  go_enter Try.func41, Try.ntmps41
  go_wp2_with (first | ((with_reducible refine gate_dst (N := 3) rfl ?_); refine box_event ?hg (N := 3) ?hd (cs := #[.int .i64 a0_0, .int .i64 a0_1, .slice A0_2 l0_2.length c0_2]) (t := 24) ?hr ?_; (case hd => rfl); (case hg => rfl); (case hr => first | (go_simp; done) | (go_simp; rfl)); intro g_b hg w_3 hbox hb; replace HT := Aside0.mk (HT.out.pushBe hbox hg hb); clear hb hbox hg) | ((with_reducible refine gate_dst (N := 4) rfl ?_); refine box_event ?hg (N := 4) ?hd (cs := #[.int .i64 a1_0, .int .i64 a1_1]) (t := 26) ?hr ?_; (case hd => rfl); (case hg => rfl); (case hr => first | (go_simp; done) | (go_simp; rfl)); intro g_s hg w_4 hbox hb; replace HT := Aside0.mk (HT.out.pushBe hbox hg hb); clear hb hbox hg; have hx0_b := (HT.out.bx 1 rfl 0).trans rfl; have hx1_b := (HT.out.bx 1 rfl 1).trans rfl; have hx2_b := (HT.out.bx 1 rfl 2).trans rfl; have hz_b := (HT.out.far 1 rfl (k := g_b) rfl).1; have hx0_s := (HT.out.bx 0 rfl 0).trans rfl; have hx1_s := (HT.out.bx 0 rfl 1).trans rfl) | ((with_reducible refine gate_dst (N := 13) rfl ?_); (try (refine gate_guard (by rfl) ?_; dsimp only)); refine goesL_ (some 13) rfl rfl Try.func21 (by kernel_rfl) rfl #[.agg #[.int .i64 a0_0, .int .i64 a0_1, .slice A0_2 l0_2.length c0_2], .agg #[.int .i64 a1_0, .int .i64 a1_1]] rfl (by (try simp only [List.map_toArray, List.map_cons, List.map_nil]); first | done | rfl) ?_; (with_reducible refine (board_Get.calls a0_0 a0_1 _ _ l0_2 a1_0 a1_1 t1 t2 t3 t4 t5 t6 true _ ?s1 ?s2 E0.out).mono ?_); (case s1 => exact Kd.C_below HR0.out HT.out.below); (case s2 => exact HC0.out); rintro e_ w_13 ⟨rfl, hb⟩; refine ⟨_, rfl, ?_⟩; replace HT := Aside0.mk (HT.out.step hb); clear hb) | ((with_reducible refine gate_dst (N := 20) rfl ?_); (try (refine gate_guard (by rfl) ?_; dsimp only)); replace HT := Aside0.mk (HT.out.pushB #[.int .i64 t1, .int .i64 t2, .int .i64 t3, .int .i64 t4, .int .i64 t5, .int .i64 t6] 28); refine goesL_ (some 20) rfl rfl Try.func34 (by kernel_rfl) rfl #[.agg #[.int .i64 t1, .int .i64 t2, .int .i64 t3, .int .i64 t4, .int .i64 t5, .int .i64 t6], .int .i64 a2] rfl (by (try simp only [List.map_toArray, List.map_cons, List.map_nil]); first | done | rfl) ?_; (with_reducible refine (alarm_Pass.calls k t1 t2 t3 t4 t5 t6 a2 p1 p2 p3 p4 p5 p6 _ E1.out).mono ?_); rintro e_ w_20 ⟨rfl, hb⟩; refine ⟨_, rfl, ?_⟩; replace HT := Aside0.mk (HT.out.step hb); clear hb))
  go_ret2
  exact ⟨rfl, HT.out.below⟩
theorem due_At.calls (k : Nat) (a0_0 a0_1 : Int) (A0_2 : Option Addr) (c0_2 : Nat) (l0_2 : List S28) (a1_0 a1_1 a2 : Int) (r1 : Int) (r2 : Bool) (w : World) (hr0_2 : Kd.C k28 w A0_2 l0_2.length l0_2) (hc0_2 : l0_2.length ≤ c0_2) (h : due_At.f k a0_0 a0_1 l0_2 a1_0 a1_1 a2 = some (r1, r2)) :
    Calls Try.prog 41 #[.agg #[.int .i64 a0_0, .int .i64 a0_1, .slice A0_2 l0_2.length c0_2], .agg #[.int .i64 a1_0, .int .i64 a1_1], .int .i64 a2] w fun e w' => e = .returned (.tuple #[.int .i64 r1, .bool r2]) ∧ Below w.heap.size w w' := by
  obtain ⟨⟨t1, t2, t3, t4, t5, t6, t7⟩, h1, h⟩ := Option.bind_eq_some_iff.mp h
  cases t7 with
  | false =>
    simp only [Bool.false_eq_true, if_false] at h
    obtain ⟨rfl, rfl⟩ : 0 = r1 ∧ false = r2 := by simpa only [Option.some.injEq, Prod.mk.injEq] using h
    exact due_At.e1 k a0_0 a0_1 A0_2 c0_2 l0_2 a1_0 a1_1 a2 t1 t2 t3 t4 t5 t6 w hr0_2 hc0_2 h1
  | true =>
    simp only [if_true] at h
    obtain ⟨⟨p1, p2, p3, p4, p5, p6⟩, h2, h⟩ := Option.bind_eq_some_iff.mp h
    obtain ⟨rfl, rfl⟩ : p3 = r1 ∧ true = r2 := by simpa only [Option.some.injEq, Prod.mk.injEq] using h
    exact due_At.main k a0_0 a0_1 A0_2 c0_2 l0_2 a1_0 a1_1 a2 t1 t2 t3 t4 t5 t6 p1 p2 p3 p4 p5 p6 w hr0_2 hc0_2 h1 h2

/-! ### watchmanlaw09_coming: function 46 -/
theorem T.lit_one {P : Program} {ops : Array Oper} {oi : Oper} {N : Option Tmp} {a : Act} {w : World} {K : Act → World → Prop} {Q : Exit → Act → World → Prop} {n : Nat} {cs : Array Value} {t : TypeId} (hw : Region.wanted oi (yielded ops a.tmps) = true) (hN : oi.dst = N)
    (hrun : (execOp a.eval oi).run P w = .ok (.value (.slice (some ⟨w.heap.size, 0, none⟩) n n)) (w.alloc (.cells cs t (0, 0))))
    (h : ∀ g, g = w.heap.size → ∀ w1, w1.heap[g]? = some (.cells cs t (0, 0)) → Below w.heap.size w w1 → K (a.put N (.slice (some ⟨g, 0, none⟩) n n)) w1) : if Region.wanted oi (yielded ops a.tmps) = true then Oper.wp P oi a w K Q else K (a.put N undef) w :=
  value_ hw hN hrun (h _ rfl _ (blk_new w _) (below_alloc (Below.refl _ _) _))
theorem T.C_turn3 {W : World} {g : Nat} {p0 p1 p2 p3 q0 q1 q2 q3 r0 r1 r2 r3 : Int} (h : W.heap[g]? = some (.cells #[.int .i64 p0, .int .i64 p1, .int .i64 p2, .int .i64 p3, .int .i64 q0, .int .i64 q1, .int .i64 q2, .int .i64 q3, .int .i64 r0, .int .i64 r1, .int .i64 r2, .int .i64 r3] 65 (0, 0))) :
    Kd.C k65 W (some ⟨g, 0, none⟩) ([(⟨p0, ⟨p1, p2⟩, p3⟩ : S65), ⟨q0, ⟨q1, q2⟩, q3⟩, ⟨r0, ⟨r1, r2⟩, r3⟩] : List S65).length [(⟨p0, ⟨p1, p2⟩, p3⟩ : S65), ⟨q0, ⟨q1, q2⟩, q3⟩, ⟨r0, ⟨r1, r2⟩, r3⟩] :=
  T.C_block h [[.int .i64 p0, .int .i64 p1, .int .i64 p2, .int .i64 p3], [.int .i64 q0, .int .i64 q1, .int .i64 q2, .int .i64 q3], [.int .i64 r0, .int .i64 r1, .int .i64 r2, .int .i64 r3]] rfl rfl (by simp) (fun j x c hx hc => by
    match j with
    | 0 => obtain rfl := Option.some.inj hx; obtain rfl := Option.some.inj hc; exact k65.K_of_M (k65_mkM W 0 (fun _ => True) _)
    | 1 => obtain rfl := Option.some.inj hx; obtain rfl := Option.some.inj hc; exact k65.K_of_M (k65_mkM W 0 (fun _ => True) _)
    | 2 => obtain rfl := Option.some.inj hx; obtain rfl := Option.some.inj hc; exact k65.K_of_M (k65_mkM W 0 (fun _ => True) _)
    | j + 3 => simp at hx)
theorem watchmanlaw09_coming.e_new : board_New.f 5 = some (5, 0, ([] : List S28), 0) := by kernel_rfl
theorem watchmanlaw09_coming.e_ox : alarm_Open.f 100 1 0 2 0 = some (1, 0, 1, 2, 0, 30, 0) := by kernel_rfl
theorem watchmanlaw09_coming.e_oy : alarm_Open.f 100 2 0 1 0 = some (2, 0, 1, 1, 0, 10, 0) := by kernel_rfl
theorem watchmanlaw09_coming.e_do : alarm_Do.f 2 0 1 1 0 10 4 0 5 = some (2, 0, 4, 1, 0, 5, 0) := by kernel_rfl
theorem watchmanlaw09_coming.e_p1 : board_Put.f 100 5 0 ([] : List S28) 1 0 1 2 0 30 = some (5, 0, [(⟨(⟨1, 0⟩ : S26), 1, 2, 0, 30⟩ : S28)], 0) := by kernel_rfl
theorem watchmanlaw09_coming.e_p2 : board_Put.f 100 5 0 [(⟨(⟨1, 0⟩ : S26), 1, 2, 0, 30⟩ : S28)] 2 0 4 1 0 5 = some (5, 0, [(⟨(⟨1, 0⟩ : S26), 1, 2, 0, 30⟩ : S28), (⟨(⟨2, 0⟩ : S26), 4, 1, 0, 5⟩ : S28)], 0) := by kernel_rfl
theorem watchmanlaw09_coming.e_next : due_Next.f 100 [(⟨(⟨1, 0⟩ : S26), 1, 2, 0, 30⟩ : S28), (⟨(⟨2, 0⟩ : S26), 4, 1, 0, 5⟩ : S28)] = some (5, true) := by kernel_rfl
theorem watchmanlaw09_coming.e_turns : due_Turns.f 100 5 0 [(⟨(⟨1, 0⟩ : S26), 1, 2, 0, 30⟩ : S28), (⟨(⟨2, 0⟩ : S26), 4, 1, 0, 5⟩ : S28)] 30 = some ([(⟨5, (⟨2, 0⟩ : S26), 1⟩ : S65), (⟨15, (⟨2, 0⟩ : S26), 2⟩ : S65), (⟨30, (⟨1, 0⟩ : S26), 2⟩ : S65)], 0) := by kernel_rfl
theorem watchmanlaw09_coming.e_at : due_At.f 100 5 0 [(⟨(⟨1, 0⟩ : S26), 1, 2, 0, 30⟩ : S28), (⟨(⟨2, 0⟩ : S26), 4, 1, 0, 5⟩ : S28)] 2 0 14 = some (1, true) := by kernel_rfl
theorem watchmanlaw09_coming.e_same : watchmanref09_Same.f 100 [(⟨5, (⟨2, 0⟩ : S26), 1⟩ : S65), (⟨15, (⟨2, 0⟩ : S26), 2⟩ : S65), (⟨30, (⟨1, 0⟩ : S26), 2⟩ : S65)] [(⟨5, (⟨2, 0⟩ : S26), 1⟩ : S65), (⟨15, (⟨2, 0⟩ : S26), 2⟩ : S65), (⟨30, (⟨1, 0⟩ : S26), 2⟩ : S65)] = some true := by kernel_rfl
theorem watchmanlaw09_coming.e_order : due_Order.f 100 [(⟨30, (⟨1, 0⟩ : S26), 2⟩ : S65), (⟨5, (⟨2, 0⟩ : S26), 1⟩ : S65), (⟨15, (⟨2, 0⟩ : S26), 2⟩ : S65)] = some [(⟨5, (⟨2, 0⟩ : S26), 1⟩ : S65), (⟨15, (⟨2, 0⟩ : S26), 2⟩ : S65), (⟨30, (⟨1, 0⟩ : S26), 2⟩ : S65)] := by kernel_rfl
def watchmanlaw09_coming.T11 : Bool × List (List Nat × List Nat) := (true, [([], []), ([0], [0]), ([1], [1]), ([2], [2]), ([2], [2]), ([3, 4, 2], [2, 3, 4]), ([2, 5], [2, 5]), ([6, 2], [6]), ([7], [7]), ([7], [7]), ([8, 9, 7], [7, 8, 9]), ([7, 10], [7, 10]), ([11, 7], [11]), ([12], [12]), ([12], [12]), ([13, 14, 12], [12, 13, 14]), ([12, 15], [12, 15]), ([16, 12], [16]), ([17], [17]), ([17], [17]), ([18, 19, 17], [17, 18, 19]), ([17, 20], [17, 20]), ([21, 17], [21]), ([22], [22]), ([22], [22]), ([23, 24, 22], [22, 23, 24]), ([22, 25], [22, 25]), ([26, 22], [26]), ([27], [27]), ([27, 28], [27, 28]), ([29, 27], [29]), ([30], [30]), ([31, 30], [30, 31]), ([30, 32], [30, 32]), ([33, 30], [33]), ([34], [34]), ([34], [34]), ([35, 36, 34], [34, 35, 36]), ([34, 37], [34, 37]), ([38, 34], [38]), ([39], [39]), ([39], [39]), ([40, 41, 39, 39], [39, 40, 41]), ([39, 42], [39, 42]), ([43, 42], [43]), ([44], [44]), ([44, 45], [44, 45]), ([46, 44], [46]), ([47], [47]), ([48, 47], [47, 48]), ([47, 49], [47, 49]), ([50, 47], [50]), ([51], [51]), ([52, 51], [51, 52]), ([53, 51], [51, 53]), ([51], [51]), ([55, 51], [51, 55]), ([56, 51], [51, 56]), ([51], [51]), ([58, 51], [51, 58]), ([59, 51], [51, 59]), ([54, 57, 60, 51], [51, 54, 57, 60]), ([61, 51, 51], [51, 61]), ([51], [51]), ([62, 63, 62, 51], [51, 62, 63]), ([51, 64], [51, 64]), ([65, 64, 0, 1, 2, 3, 4, 5, 6, 7, 8, 9, 10, 11, 12, 13, 14, 15, 16, 17, 18, 19, 20, 21, 22, 23, 24, 25, 26, 27, 28, 29, 30, 31, 32, 33, 34, 35, 36, 37, 38, 39, 40, 41, 42, 43, 44, 45, 46, 47, 48, 49, 50, 51, 52, 53, 54, 55, 56, 57, 58, 59, 60, 61, 62, 63, 64, 65], [65])])
def watchmanlaw09_coming.B11 : List Nat := [0, 1, 3, 7, 7, 31, 63, 127, 255, 255, 1023, 2047, 4095, 8191, 8191, 32767, 65535, 131071, 262143, 262143, 1048575, 2097151, 4194303, 8388607, 8388607, 33554431, 67108863, 134217727, 268435455, 536870911, 1073741823, 2147483647, 4294967295, 8589934591, 17179869183, 34359738367, 34359738367, 137438953471, 274877906943, 549755813887, 1099511627775, 1099511627775, 4398046511103, 8796093022207, 17592186044415, 35184372088831, 70368744177663, 140737488355327, 281474976710655, 562949953421311, 1125899906842623, 2251799813685247, 4503599627370495, 9007199254740991, 18014398509481983, 4503599627370495, 40532396646334463, 112589990684262399, 4503599627370495, 292733975779082239, 869194728082505727, 2305843009213693951, 4611686018427387903, 4503599627370495, 18446744073709551615, 36893488147419103231, 73786976294838206463]
theorem watchmanlaw09_coming.tab11 : rtab .any (opsOf Try.f46 11) = watchmanlaw09_coming.T11 := by kernel_rfl
theorem watchmanlaw09_coming.bits11 : waitsOk watchmanlaw09_coming.T11.2 watchmanlaw09_coming.B11 = true := by kernel_rfl
def watchmanlaw09_coming.f : Option Bool := some true
set_option maxHeartbeats 8000000 in
set_option maxRecDepth 100000 in
theorem watchmanlaw09_coming.calls (r : Bool) (w : World) (h : watchmanlaw09_coming.f = some r) :
    Calls Try.prog 46 #[] w fun e w' => e = .returned (.bool r) ∧ Below w.heap.size w w' := by
  obtain rfl := Option.some.inj h
  clear h
  have hu := Try.underlying24
  have hu2 := Try.underlying28
  have hu3 := Try.underlying26
  have hu4 := Try.underlying65
  have HT := Aside0.mk (T.Tell.init w)
  go_enter Try.func46, Try.ntmps46
  go_wp2_with (first | ((with_reducible refine gate_dst (N := 18) rfl ?_); (try (refine gate_guard (by rfl) ?_; dsimp only)); refine goesL_ (some 18) rfl rfl Try.func23 (by kernel_rfl) rfl #[.int .i64 5] rfl (by (try simp only [List.map_toArray, List.map_cons, List.map_nil]); first | done | rfl) ?_; (with_reducible refine (board_New.calls 5 5 0 ([] : List S28) 0 _ watchmanlaw09_coming.e_new).mono ?_); rintro e_ w_18 ⟨v_, rfl, ho, hb⟩; refine ⟨_, rfl, ?_⟩; obtain ⟨A_b, c_b, rfl⟩ := Kd.R_slice ho; replace HT := Aside0.mk (HT.out.pushR ho hb); clear ho hb) | ((with_reducible refine gate_dst (N := 23) rfl ?_); (try (refine gate_guard (by rfl) ?_; dsimp only)); replace HT := Aside0.mk (HT.out.pushB #[.int .i64 5, .int .i64 0, .slice A_b ([] : List S28).length c_b] 24); refine goesL_ (some 23) rfl rfl Try.func64 (by kernel_rfl) rfl #[.agg #[.int .i64 1, .int .i64 0], .int .i64 2, .int .i64 0] rfl (by (try simp only [List.map_toArray, List.map_cons, List.map_nil]); first | done | rfl) ?_; (with_reducible refine (alarm_Open.calls 100 1 0 2 0 1 0 1 2 0 30 0 _ watchmanlaw09_coming.e_ox).mono ?_); rintro e_ w_23 ⟨rfl, hb⟩; refine ⟨_, rfl, ?_⟩; replace HT := Aside0.mk (HT.out.step hb); clear hb) | ((with_reducible refine gate_dst (N := 28) rfl ?_); (try (refine gate_guard (by rfl) ?_; dsimp only)); replace HT := Aside0.mk (HT.out.pushB #[.int .i64 1, .int .i64 0, .int .i64 1, .int .i64 2, .int .i64 0, .int .i64 30] 28); refine goesL_ (some 28) rfl rfl Try.func64 (by kernel_rfl) rfl #[.agg #[.int .i64 2, .int .i64 0], .int .i64 1, .int .i64 0] rfl (by (try simp only [List.map_toArray, List.map_cons, List.map_nil]); first | done | rfl) ?_; (with_reducible refine (alarm_Open.calls 100 2 0 1 0 2 0 1 1 0 10 0 _ watchmanlaw09_coming.e_oy).mono ?_); rintro e_ w_28 ⟨rfl, hb⟩; refine ⟨_, rfl, ?_⟩; replace HT := Aside0.mk (HT.out.step hb); clear hb) | ((with_reducible refine gate_dst (N := 33) rfl ?_); (try (refine gate_guard (by rfl) ?_; dsimp only)); replace HT := Aside0.mk (HT.out.pushB #[.int .i64 2, .int .i64 0, .int .i64 1, .int .i64 1, .int .i64 0, .int .i64 10] 28); refine goesL_ (some 33) rfl rfl Try.func76 (by kernel_rfl) rfl #[.agg #[.int .i64 2, .int .i64 0, .int .i64 1, .int .i64 1, .int .i64 0, .int .i64 10], .int .i64 4, .int .i64 0, .int .i64 5] rfl (by (try simp only [List.map_toArray, List.map_cons, List.map_nil]); first | done | rfl) ?_; (with_reducible refine (alarm_Do.calls 2 0 1 1 0 10 4 0 5 2 0 4 1 0 5 0 _ watchmanlaw09_coming.e_do).mono ?_); rintro e_ w_33 ⟨rfl, hb⟩; refine ⟨_, rfl, ?_⟩; replace HT := Aside0.mk (HT.out.step hb); clear hb; have hx0_y := (HT.out.bx 0 rfl 0).trans rfl; have hx1_y := (HT.out.bx 0 rfl 1).trans rfl; have hx2_y := (HT.out.bx 0 rfl 2).trans rfl; have hx3_y := (HT.out.bx 0 rfl 3).trans rfl; have hx4_y := (HT.out.bx 0 rfl 4).trans rfl; have hx5_y := (HT.out.bx 0 rfl 5).trans rfl; have hz_y := (HT.out.far 0 rfl (k := w_28.heap.size) rfl).1; have hf0_y := HT.out.fz 0 rfl 0; have hf1_y := HT.out.fz 0 rfl 1; have hf2_y := HT.out.fz 0 rfl 2; have hf3_y := HT.out.fz 0 rfl 3; have hf4_y := HT.out.fz 0 rfl 4; have hf5_y := HT.out.fz 0 rfl 5; have mk37_ : True := trivial) | ((with_reducible refine gate_dst (N := 37) rfl ?_); clear mk37_; have HT2 := Aside0.mk ((((((HT.out.put 0 rfl 0 (.int .i64 2)).put 0 rfl 1 (.int .i64 0)).put 0 rfl 2 (.int .i64 4)).put 0 rfl 3 (.int .i64 1)).put 0 rfl 4 (.int .i64 0)).put 0 rfl 5 (.int .i64 5)); clear HT; generalize ((((((w_33.setCell ⟨w_28.heap.size, 0, none⟩ (.int .i64 2)).setCell ⟨w_28.heap.size, 1, none⟩ (.int .i64 0)).setCell ⟨w_28.heap.size, 2, none⟩ (.int .i64 4)).setCell ⟨w_28.heap.size, 3, none⟩ (.int .i64 1)).setCell ⟨w_28.heap.size, 4, none⟩ (.int .i64 0)).setCell ⟨w_28.heap.size, 5, none⟩ (.int .i64 5)) = w_s37 at HT2 ⊢; have HT := Aside0.mk HT2.out; clear HT2; have hx0_B := (HT.out.bx 2 rfl 0).trans rfl; have hx1_B := (HT.out.bx 2 rfl 1).trans rfl; have hx2_B := (HT.out.bx 2 rfl 2).trans rfl; have hz_B := (HT.out.far 2 rfl (k := w_18.heap.size) rfl).1; have hx0_x := (HT.out.bx 1 rfl 0).trans rfl; have hx1_x := (HT.out.bx 1 rfl 1).trans rfl; have hx2_x := (HT.out.bx 1 rfl 2).trans rfl; have hx3_x := (HT.out.bx 1 rfl 3).trans rfl; have hx4_x := (HT.out.bx 1 rfl 4).trans rfl; have hx5_x := (HT.out.bx 1 rfl 5).trans rfl; have hz_x := (HT.out.far 1 rfl (k := w_23.heap.size) rfl).1) | ((with_reducible refine gate_dst (N := 39) rfl ?_); (try (refine gate_guard (by rfl) ?_; dsimp only)); refine goesL_ (some 39) rfl rfl Try.func15 (by kernel_rfl) rfl #[.agg #[.int .i64 5, .int .i64 0, .slice A_b ([] : List S28).length c_b], .agg #[.int .i64 1, .int .i64 0, .int .i64 1, .int .i64 2, .int .i64 0, .int .i64 30]] rfl (by (try simp only [List.map_toArray, List.map_cons, List.map_nil]); first | done | rfl) ?_; (with_reducible refine (board_Put.calls 100 5 0 _ _ ([] : List S28) 1 0 1 2 0 30 5 0 [(⟨(⟨1, 0⟩ : S26), 1, 2, 0, 30⟩ : S28)] 0 _ ?s1 ?s2 watchmanlaw09_coming.e_p1).mono ?_); (case s1 => exact HT.out.rc 3 rfl); (case s2 => exact HT.out.rl 3 rfl); rintro e_ w_39 ⟨v_, rfl, ho, hb⟩; refine ⟨_, rfl, ?_⟩; obtain ⟨A_c, c_c, rfl⟩ := Kd.R_slice ho; replace HT := Aside0.mk (HT.out.pushR ho hb); clear ho hb; have hx0_B := (HT.out.bx 3 rfl 0).trans rfl; have hx1_B := (HT.out.bx 3 rfl 1).trans rfl; have hx2_B := (HT.out.bx 3 rfl 2).trans rfl; have hz_B := (HT.out.far 3 rfl (k := w_18.heap.size) rfl).1; have hf0_B := HT.out.fz 3 rfl 0; have hf1_B := HT.out.fz 3 rfl 1; have hf2_B := HT.out.fz 3 rfl 2; have mk43_ : True := trivial) | ((with_reducible refine gate_dst (N := 43) rfl ?_); clear mk43_; have HT2 := Aside0.mk (((HT.out.put 3 rfl 0 (.int .i64 5)).put 3 rfl 1 (.int .i64 0)).put 3 rfl 2 (.slice A_c [(⟨(⟨1, 0⟩ : S26), 1, 2, 0, 30⟩ : S28)].length c_c)); clear HT; generalize (((w_39.setCell ⟨w_18.heap.size, 0, none⟩ (.int .i64 5)).setCell ⟨w_18.heap.size, 1, none⟩ (.int .i64 0)).setCell ⟨w_18.heap.size, 2, none⟩ (.slice A_c [(⟨(⟨1, 0⟩ : S26), 1, 2, 0, 30⟩ : S28)].length c_c)) = w_s43 at HT2 ⊢; have HT := Aside0.mk HT2.out; clear HT2; have hx0_B := (HT.out.bx 3 rfl 0).trans rfl; have hx1_B := (HT.out.bx 3 rfl 1).trans rfl; have hx2_B := (HT.out.bx 3 rfl 2).trans rfl; have hz_B := (HT.out.far 3 rfl (k := w_18.heap.size) rfl).1; have hx0_y := (HT.out.bx 1 rfl 0).trans rfl; have hx1_y := (HT.out.bx 1 rfl 1).trans rfl; have hx2_y := (HT.out.bx 1 rfl 2).trans rfl; have hx3_y := (HT.out.bx 1 rfl 3).trans rfl; have hx4_y := (HT.out.bx 1 rfl 4).trans rfl; have hx5_y := (HT.out.bx 1 rfl 5).trans rfl; have hz_y := (HT.out.far 1 rfl (k := w_28.heap.size) rfl).1) | ((with_reducible refine gate_dst (N := 45) rfl ?_); (try (refine gate_guard (by rfl) ?_; dsimp only)); refine goesL_ (some 45) rfl rfl Try.func15 (by kernel_rfl) rfl #[.agg #[.int .i64 5, .int .i64 0, .slice A_c [(⟨(⟨1, 0⟩ : S26), 1, 2, 0, 30⟩ : S28)].length c_c], .agg #[.int .i64 2, .int .i64 0, .int .i64 4, .int .i64 1, .int .i64 0, .int .i64 5]] rfl (by (try simp only [List.map_toArray, List.map_cons, List.map_nil]); first | done | rfl) ?_; (with_reducible refine (board_Put.calls 100 5 0 _ _ [(⟨(⟨1, 0⟩ : S26), 1, 2, 0, 30⟩ : S28)] 2 0 4 1 0 5 5 0 [(⟨(⟨1, 0⟩ : S26), 1, 2, 0, 30⟩ : S28), (⟨(⟨2, 0⟩ : S26), 4, 1, 0, 5⟩ : S28)] 0 _ ?s1 ?s2 watchmanlaw09_coming.e_p2).mono ?_); (case s1 => exact HT.out.rc 0 rfl); (case s2 => exact HT.out.rl 0 rfl); rintro e_ w_45 ⟨v_, rfl, ho, hb⟩; refine ⟨_, rfl, ?_⟩; obtain ⟨A_d, c_d, rfl⟩ := Kd.R_slice ho; replace HT := Aside0.mk (HT.out.pushR ho hb); clear ho hb; have hx0_B := (HT.out.bx 4 rfl 0).trans rfl; have hx1_B := (HT.out.bx 4 rfl 1).trans rfl; have hx2_B := (HT.out.bx 4 rfl 2).trans rfl; have hz_B := (HT.out.far 4 rfl (k := w_18.heap.size) rfl).1; have hf0_B := HT.out.fz 4 rfl 0; have hf1_B := HT.out.fz 4 rfl 1; have hf2_B := HT.out.fz 4 rfl 2; have mk49_ : True := trivial) | ((with_reducible refine gate_dst (N := 49) rfl ?_); clear mk49_; have HT2 := Aside0.mk (((HT.out.put 4 rfl 0 (.int .i64 5)).put 4 rfl 1 (.int .i64 0)).put 4 rfl 2 (.slice A_d [(⟨(⟨1, 0⟩ : S26), 1, 2, 0, 30⟩ : S28), (⟨(⟨2, 0⟩ : S26), 4, 1, 0, 5⟩ : S28)].length c_d)); clear HT; generalize (((w_45.setCell ⟨w_18.heap.size, 0, none⟩ (.int .i64 5)).setCell ⟨w_18.heap.size, 1, none⟩ (.int .i64 0)).setCell ⟨w_18.heap.size, 2, none⟩ (.slice A_d [(⟨(⟨1, 0⟩ : S26), 1, 2, 0, 30⟩ : S28), (⟨(⟨2, 0⟩ : S26), 4, 1, 0, 5⟩ : S28)].length c_d)) = w_s49 at HT2 ⊢; have HT := Aside0.mk HT2.out; clear HT2; have hx0_B := (HT.out.bx 4 rfl 0).trans rfl; have hx1_B := (HT.out.bx 4 rfl 1).trans rfl; have hx2_B := (HT.out.bx 4 rfl 2).trans rfl; have hz_B := (HT.out.far 4 rfl (k := w_18.heap.size) rfl).1) | ((with_reducible refine gate_dst (N := 50) rfl ?_); (try (refine gate_guard (by rfl) ?_; dsimp only)); refine goesL_ (some 50) rfl rfl Try.func39 (by kernel_rfl) rfl #[.agg #[.int .i64 5, .int .i64 0, .slice A_d [(⟨(⟨1, 0⟩ : S26), 1, 2, 0, 30⟩ : S28), (⟨(⟨2, 0⟩ : S26), 4, 1, 0, 5⟩ : S28)].length c_d]] rfl (by (try simp only [List.map_toArray, List.map_cons, List.map_nil]); first | done | rfl) ?_; (with_reducible refine (due_Next.calls 100 5 0 _ _ [(⟨(⟨1, 0⟩ : S26), 1, 2, 0, 30⟩ : S28), (⟨(⟨2, 0⟩ : S26), 4, 1, 0, 5⟩ : S28)] 5 true _ ?s1 ?s2 watchmanlaw09_coming.e_next).mono ?_); (case s1 => exact HT.out.rc 0 rfl); (case s2 => exact HT.out.rl 0 rfl); rintro e_ w_50 ⟨rfl, hb⟩; refine ⟨_, rfl, ?_⟩; replace HT := Aside0.mk (HT.out.step hb); clear hb; have hx0_B := (HT.out.bx 4 rfl 0).trans rfl; have hx1_B := (HT.out.bx 4 rfl 1).trans rfl; have hx2_B := (HT.out.bx 4 rfl 2).trans rfl; have hz_B := (HT.out.far 4 rfl (k := w_18.heap.size) rfl).1) | ((with_reducible refine gate_dst (N := 55) rfl ?_); (try (refine gate_guard (by rfl) ?_; dsimp only)); refine goesL_ (some 55) rfl rfl Try.func37 (by kernel_rfl) rfl #[.agg #[.int .i64 5, .int .i64 0, .slice A_d [(⟨(⟨1, 0⟩ : S26), 1, 2, 0, 30⟩ : S28), (⟨(⟨2, 0⟩ : S26), 4, 1, 0, 5⟩ : S28)].length c_d], .int .i64 30] rfl (by (try simp only [List.map_toArray, List.map_cons, List.map_nil]); first | done | rfl) ?_; (with_reducible refine (due_Turns.calls 100 5 0 _ _ [(⟨(⟨1, 0⟩ : S26), 1, 2, 0, 30⟩ : S28), (⟨(⟨2, 0⟩ : S26), 4, 1, 0, 5⟩ : S28)] 30 [(⟨5, (⟨2, 0⟩ : S26), 1⟩ : S65), (⟨15, (⟨2, 0⟩ : S26), 2⟩ : S65), (⟨30, (⟨1, 0⟩ : S26), 2⟩ : S65)] 0 _ ?s1 ?s2 watchmanlaw09_coming.e_turns).mono ?_); (case s1 => exact HT.out.rc 0 rfl); (case s2 => exact HT.out.rl 0 rfl); rintro e_ w_55 ⟨v_, rfl, ho, hb⟩; refine ⟨_, rfl, ?_⟩; obtain ⟨A_l, c_l, rfl⟩ := Kd.R_slice ho; replace HT := Aside0.mk (HT.out.pushR ho hb); clear ho hb; have hx0_B := (HT.out.bx 5 rfl 0).trans rfl; have hx1_B := (HT.out.bx 5 rfl 1).trans rfl; have hx2_B := (HT.out.bx 5 rfl 2).trans rfl; have hz_B := (HT.out.far 5 rfl (k := w_18.heap.size) rfl).1; have hx0_y := (HT.out.bx 3 rfl 0).trans rfl; have hx1_y := (HT.out.bx 3 rfl 1).trans rfl; have hx2_y := (HT.out.bx 3 rfl 2).trans rfl; have hx3_y := (HT.out.bx 3 rfl 3).trans rfl; have hx4_y := (HT.out.bx 3 rfl 4).trans rfl; have hx5_y := (HT.out.bx 3 rfl 5).trans rfl; have hz_y := (HT.out.far 3 rfl (k := w_28.heap.size) rfl).1) | ((with_reducible refine gate_dst (N := 62) rfl ?_); (try (refine gate_guard (by rfl) ?_; dsimp only)); refine goesL_ (some 62) rfl rfl Try.func41 (by kernel_rfl) rfl #[.agg #[.int .i64 5, .int .i64 0, .slice A_d [(⟨(⟨1, 0⟩ : S26), 1, 2, 0, 30⟩ : S28), (⟨(⟨2, 0⟩ : S26), 4, 1, 0, 5⟩ : S28)].length c_d], .agg #[.int .i64 2, .int .i64 0], .int .i64 14] rfl (by (try simp only [List.map_toArray, List.map_cons, List.map_nil]); first | done | rfl) ?_; (with_reducible refine (due_At.calls 100 5 0 _ _ [(⟨(⟨1, 0⟩ : S26), 1, 2, 0, 30⟩ : S28), (⟨(⟨2, 0⟩ : S26), 4, 1, 0, 5⟩ : S28)] 2 0 14 1 true _ ?s1 ?s2 watchmanlaw09_coming.e_at).mono ?_); (case s1 => exact HT.out.rc 1 rfl); (case s2 => exact HT.out.rl 1 rfl); rintro e_ w_62 ⟨rfl, hb⟩; refine ⟨_, rfl, ?_⟩; replace HT := Aside0.mk (HT.out.step hb); clear hb; have hx0_x := (HT.out.bx 4 rfl 0).trans rfl; have hx1_x := (HT.out.bx 4 rfl 1).trans rfl; have hx2_x := (HT.out.bx 4 rfl 2).trans rfl; have hx3_x := (HT.out.bx 4 rfl 3).trans rfl; have hx4_x := (HT.out.bx 4 rfl 4).trans rfl; have hx5_x := (HT.out.bx 4 rfl 5).trans rfl; have hz_x := (HT.out.far 4 rfl (k := w_23.heap.size) rfl).1; have hx0_y := (HT.out.bx 3 rfl 0).trans rfl; have hx1_y := (HT.out.bx 3 rfl 1).trans rfl; have hx2_y := (HT.out.bx 3 rfl 2).trans rfl; have hx3_y := (HT.out.bx 3 rfl 3).trans rfl; have hx4_y := (HT.out.bx 3 rfl 4).trans rfl; have hx5_y := (HT.out.bx 3 rfl 5).trans rfl; have hz_y := (HT.out.far 3 rfl (k := w_28.heap.size) rfl).1) | ((with_reducible refine gate_dst (N := 74) rfl ?_); (try (refine gate_guard (by rfl) ?_; dsimp only)); refine T.lit_event ?hg (N := 74) ?hd (n := 3) (cs := #[.int .i64 5, .int .i64 2, .int .i64 0, .int .i64 1, .int .i64 15, .int .i64 2, .int .i64 0, .int .i64 2, .int .i64 30, .int .i64 1, .int .i64 0, .int .i64 2]) (t := 65) ?hr ?_; (case hd => rfl); (case hg => rfl); (case hr => first | (go_simp; done) | (go_simp; rfl)); intro g_want hg w_74 hbox hb; replace HT := Aside0.mk (HT.out.pushBe hbox hg hb); clear hb hbox hg))
  replace HT := Aside0.mk (HT.out.step (T.below_drew_ _))
  refine start_ (n := 67) (S := fun w' => w'.cell? ⟨g_want, 0, none⟩ = some (.int .i64 5) ∧ w'.cell? ⟨g_want, 1, none⟩ = some (.int .i64 2) ∧ w'.cell? ⟨g_want, 2, none⟩ = some (.int .i64 0) ∧ w'.cell? ⟨g_want, 3, none⟩ = some (.int .i64 1) ∧ w'.cell? ⟨g_want, 4, none⟩ = some (.int .i64 15) ∧ w'.cell? ⟨g_want, 5, none⟩ = some (.int .i64 2) ∧ w'.cell? ⟨g_want, 6, none⟩ = some (.int .i64 0) ∧ w'.cell? ⟨g_want, 7, none⟩ = some (.int .i64 2) ∧ w'.cell? ⟨g_want, 8, none⟩ = some (.int .i64 30) ∧ w'.cell? ⟨g_want, 9, none⟩ = some (.int .i64 1) ∧ w'.cell? ⟨g_want, 10, none⟩ = some (.int .i64 0) ∧ w'.cell? ⟨g_want, 11, none⟩ = some (.int .i64 2)) (ds := []) #[false, false, false, false, false, false, false, false, false, false, false, false, false, false, false, false, false, false, false, false, false, false, false, false, false, false, false, false, false, false, false, false, false, false, false, false, false, false, false, false, false, false, false, false, false, false, false, false, false, false, false, false, false, false, false, false, false, false, false, false, false, false, false, false, false, false, false] (by kernel_rfl) rfl rfl ⟨(HT.out.bx 0 rfl 0).trans rfl, (HT.out.bx 0 rfl 1).trans rfl, (HT.out.bx 0 rfl 2).trans rfl, (HT.out.bx 0 rfl 3).trans rfl, (HT.out.bx 0 rfl 4).trans rfl, (HT.out.bx 0 rfl 5).trans rfl, (HT.out.bx 0 rfl 6).trans rfl, (HT.out.bx 0 rfl 7).trans rfl, (HT.out.bx 0 rfl 8).trans rfl, (HT.out.bx 0 rfl 9).trans rfl, (HT.out.bx 0 rfl 10).trans rfl, (HT.out.bx 0 rfl 11).trans rfl⟩ (fun hHeld => ?_); refine with_tabW watchmanlaw09_coming.tab11 watchmanlaw09_coming.bits11 (fun HT_ HW_ => ?_)
  generalize w_74.drew = w_r11 at HT hHeld ⊢
  have Q_ := Qs.mk (n := 67) [(0, 0, 75, 1), (0, 1, 76, 3), (0, 2, 77, 7), (0, 3, 78, 15), (0, 4, 79, 31), (0, 5, 80, 63), (0, 6, 81, 127), (0, 7, 82, 255), (0, 8, 83, 511), (0, 9, 84, 1023), (0, 10, 85, 2047), (0, 11, 86, 4095), (0, 12, 87, 8191), (0, 13, 88, 16383), (0, 14, 89, 32767), (0, 15, 90, 65535), (0, 16, 91, 131071), (0, 17, 92, 262143), (0, 18, 93, 524287), (0, 19, 94, 1048575), (0, 20, 95, 2097151), (0, 21, 96, 4194303), (0, 22, 97, 8388607), (0, 23, 98, 16777215), (0, 24, 99, 33554431), (0, 25, 100, 67108863), (0, 26, 101, 134217727), (0, 27, 102, 268435455), (0, 28, 103, 536870911), (0, 29, 104, 1073741823), (0, 30, 105, 2147483647), (0, 31, 106, 4294967295), (0, 32, 107, 8589934591), (0, 33, 108, 17179869183), (0, 34, 109, 34359738367), (0, 35, 110, 68719476735), (0, 36, 111, 137438953471), (0, 37, 112, 274877906943), (0, 38, 113, 549755813887), (0, 39, 114, 1099511627775), (0, 40, 115, 2199023255551), (0, 41, 116, 4398046511103)]
  iterate 42 (first | (obtain ⟨q_, Q_⟩ := Qs.p Q_; refine pureQ_ q_ (v := ?_) (a' := ?_) rfl rfl (any_of HT_.out (by kernel_rfl)) (fun _ _ _ h => h) (Or.inl ⟨by rfl, ?_⟩) ?_ ?_; rotate_left; (intro w'; go_simp; (first | (with_reducible rfl) | rfl)); rotate_left; (simp only [Act.put, List.setIfInBounds_toArray, List.set_cons_zero, List.set_cons_succ, i64_w, i32_w]; rfl)))
  clear Q_
  refine one_ (i := 42) (N := some 117) (bt_ 8796093022207 67) rfl rfl (one_of HT_.out (by kernel_rfl)) (by decide) (fun K hK => ?_)
  refine goes_ Try.func45 (by kernel_rfl) rfl #[.slice A_l [(⟨5, (⟨2, 0⟩ : S26), 1⟩ : S65), (⟨15, (⟨2, 0⟩ : S26), 2⟩ : S65), (⟨30, (⟨1, 0⟩ : S26), 2⟩ : S65)].length c_l, .slice (some ⟨g_want, 0, none⟩) ([(⟨5, (⟨2, 0⟩ : S26), 1⟩ : S65), (⟨15, (⟨2, 0⟩ : S26), 2⟩ : S65), (⟨30, (⟨1, 0⟩ : S26), 2⟩ : S65)] : List S65).length 3] (by rfl) rfl rfl (by (try simp only [List.map_toArray, List.map_cons, List.map_nil]); first | done | rfl) ?_
  (with_reducible refine (watchmanref09_Same.calls 100 _ _ [(⟨5, (⟨2, 0⟩ : S26), 1⟩ : S65), (⟨15, (⟨2, 0⟩ : S26), 2⟩ : S65), (⟨30, (⟨1, 0⟩ : S26), 2⟩ : S65)] _ _ [(⟨5, (⟨2, 0⟩ : S26), 1⟩ : S65), (⟨15, (⟨2, 0⟩ : S26), 2⟩ : S65), (⟨30, (⟨1, 0⟩ : S26), 2⟩ : S65)] true _ ?s1 ?s2 ?s3 ?s4 watchmanlaw09_coming.e_same).mono ?_); (case s1 => exact HT.out.rc 1 rfl); (case s2 => exact HT.out.rl 1 rfl); (case s3 => exact T.C_turn3 (HT.out.get 0 rfl)); (case s4 => exact Nat.le_refl _)
  rintro e_ w_117 ⟨rfl, hd⟩; refine ⟨_, rfl, ?_⟩; replace HT := Aside0.mk (HT.out.step hd.below); clear hd
  refine hK.out _ _ ⟨(HT.out.bx 0 rfl 0).trans rfl, (HT.out.bx 0 rfl 1).trans rfl, (HT.out.bx 0 rfl 2).trans rfl, (HT.out.bx 0 rfl 3).trans rfl, (HT.out.bx 0 rfl 4).trans rfl, (HT.out.bx 0 rfl 5).trans rfl, (HT.out.bx 0 rfl 6).trans rfl, (HT.out.bx 0 rfl 7).trans rfl, (HT.out.bx 0 rfl 8).trans rfl, (HT.out.bx 0 rfl 9).trans rfl, (HT.out.bx 0 rfl 10).trans rfl, (HT.out.bx 0 rfl 11).trans rfl⟩ (fun hHeld => ?_); clear hK K; refine norm_ (a' := ?_) ?_ ?_
  rotate_left
  · show Act.put _ (some 117) _ = _
    simp only [Act.put, List.setIfInBounds_toArray, List.set_cons_zero, List.set_cons_succ, i64_w, i32_w]
    rfl
  have Q_ := Qs.mk (n := 67) [(0, 43, 118, 17592186044415), (0, 44, 119, 35184372088831), (0, 45, 120, 70368744177663), (0, 46, 121, 140737488355327), (0, 47, 122, 281474976710655), (0, 48, 123, 562949953421311), (0, 49, 124, 1125899906842623), (0, 50, 125, 2251799813685247), (0, 51, 126, 4503599627370495), (0, 52, 127, 9007199254740991), (0, 53, 128, 18014398509481983), (0, 55, 130, 54043195528445951), (0, 56, 131, 126100789566373887), (0, 58, 133, 414331165718085631), (0, 59, 134, 990791918021509119), (0, 63, 138, 10214163954876284927), (2, 54, 129, 10232178353385766911), (2, 57, 132, 10376293541461622783), (2, 60, 135, 11529215046068469759)]
  iterate 19 (first | (obtain ⟨q_, Q_⟩ := Qs.p Q_; refine pureQ_ q_ (v := ?_) (a' := ?_) rfl rfl (any_of HT_.out (by kernel_rfl)) (fun _ _ _ h => h) (Or.inl ⟨by rfl, ?_⟩) ?_ ?_; rotate_left; (intro w'; go_simp; (first | (with_reducible rfl) | rfl)); rotate_left; (simp only [Act.put, List.setIfInBounds_toArray, List.set_cons_zero, List.set_cons_succ, i64_w, i32_w]; rfl)) | (obtain ⟨q_, Q_⟩ := Qs.t Q_; refine takeQ_ q_ (v := ?_) (a' := ?_) rfl rfl (take_ofW HT_.out HW_.out (by kernel_rfl)) (fun _ _ _ h => h) (Or.inl ⟨by rfl, ?_⟩) hHeld ?_ ?_; rotate_left; (rintro w' ⟨s0, s1, s2, s3, s4, s5, s6, s7, s8, s9, s10, s11⟩; go_simp; (first | (with_reducible rfl) | rfl)); rotate_left; (simp only [Act.put, List.setIfInBounds_toArray, List.set_cons_zero, List.set_cons_succ, i64_w, i32_w]; rfl)))
  clear Q_
  refine one_ (i := 61) (N := some 136) (bt_ 13835058055282163711 67) rfl rfl (one_of HT_.out (by kernel_rfl)) (by decide) (fun K hK => ?_)
  refine T.lit_one (n := 3) (cs := #[.int .i64 30, .int .i64 1, .int .i64 0, .int .i64 2, .int .i64 5, .int .i64 2, .int .i64 0, .int .i64 1, .int .i64 15, .int .i64 2, .int .i64 0, .int .i64 2]) (t := 65) (by rfl) rfl ?_ ?_
  · first | (go_simp; done) | (go_simp; rfl)
  intro g_mix hg w_136 hbox hb; replace HT := Aside0.mk (HT.out.pushBe hbox hg hb); clear hb hbox hg
  refine hK.out _ _ ⟨(HT.out.bx 1 rfl 0).trans rfl, (HT.out.bx 1 rfl 1).trans rfl, (HT.out.bx 1 rfl 2).trans rfl, (HT.out.bx 1 rfl 3).trans rfl, (HT.out.bx 1 rfl 4).trans rfl, (HT.out.bx 1 rfl 5).trans rfl, (HT.out.bx 1 rfl 6).trans rfl, (HT.out.bx 1 rfl 7).trans rfl, (HT.out.bx 1 rfl 8).trans rfl, (HT.out.bx 1 rfl 9).trans rfl, (HT.out.bx 1 rfl 10).trans rfl, (HT.out.bx 1 rfl 11).trans rfl⟩ (fun hHeld => ?_); clear hK K
  refine norm_ (a' := ?_) ?_ ?_
  rotate_left
  · show Act.put _ (some 136) _ = _
    simp only [Act.put, List.setIfInBounds_toArray, List.set_cons_zero, List.set_cons_succ, i64_w, i32_w]
    rfl
  refine one_ (i := 62) (N := some 137) (bt_ 18446744073709551615 67) rfl rfl (one_of HT_.out (by kernel_rfl)) (by decide) (fun K hK => ?_)
  refine goes_ Try.func47 (by kernel_rfl) rfl #[.slice (some ⟨g_mix, 0, none⟩) ([(⟨30, (⟨1, 0⟩ : S26), 2⟩ : S65), (⟨5, (⟨2, 0⟩ : S26), 1⟩ : S65), (⟨15, (⟨2, 0⟩ : S26), 2⟩ : S65)] : List S65).length 3] (by rfl) rfl rfl (by (try simp only [List.map_toArray, List.map_cons, List.map_nil]); first | done | rfl) ?_
  (with_reducible refine (due_Order.calls 100 _ _ [(⟨30, (⟨1, 0⟩ : S26), 2⟩ : S65), (⟨5, (⟨2, 0⟩ : S26), 1⟩ : S65), (⟨15, (⟨2, 0⟩ : S26), 2⟩ : S65)] [(⟨5, (⟨2, 0⟩ : S26), 1⟩ : S65), (⟨15, (⟨2, 0⟩ : S26), 2⟩ : S65), (⟨30, (⟨1, 0⟩ : S26), 2⟩ : S65)] _ ?s1 ?s2 watchmanlaw09_coming.e_order).mono ?_); (case s1 => exact T.C_turn3 (HT.out.get 0 rfl)); (case s2 => exact Nat.le_refl _)
  rintro e_ w_137 ⟨v_, rfl, ho, hb⟩; refine ⟨_, rfl, ?_⟩; obtain ⟨A_o, c_o, rfl⟩ := Kd.R_slice ho; replace HT := Aside0.mk (HT.out.pushR ho hb); clear ho hb
  refine hK.out _ _ ⟨(HT.out.bx 2 rfl 0).trans rfl, (HT.out.bx 2 rfl 1).trans rfl, (HT.out.bx 2 rfl 2).trans rfl, (HT.out.bx 2 rfl 3).trans rfl, (HT.out.bx 2 rfl 4).trans rfl, (HT.out.bx 2 rfl 5).trans rfl, (HT.out.bx 2 rfl 6).trans rfl, (HT.out.bx 2 rfl 7).trans rfl, (HT.out.bx 2 rfl 8).trans rfl, (HT.out.bx 2 rfl 9).trans rfl, (HT.out.bx 2 rfl 10).trans rfl, (HT.out.bx 2 rfl 11).trans rfl⟩ (fun hHeld => ?_); clear hK K; refine norm_ (a' := ?_) ?_ ?_
  rotate_left
  · show Act.put _ (some 137) _ = _
    simp only [Act.put, List.setIfInBounds_toArray, List.set_cons_zero, List.set_cons_succ, i64_w, i32_w]
    rfl
  refine one_ (i := 64) (N := some 139) (bt_ 36893488147419103231 67) rfl rfl (one_of HT_.out (by kernel_rfl)) (by decide) (fun K hK => ?_)
  refine goes_ Try.func45 (by kernel_rfl) rfl #[.slice A_o [(⟨5, (⟨2, 0⟩ : S26), 1⟩ : S65), (⟨15, (⟨2, 0⟩ : S26), 2⟩ : S65), (⟨30, (⟨1, 0⟩ : S26), 2⟩ : S65)].length c_o, .slice (some ⟨g_want, 0, none⟩) ([(⟨5, (⟨2, 0⟩ : S26), 1⟩ : S65), (⟨15, (⟨2, 0⟩ : S26), 2⟩ : S65), (⟨30, (⟨1, 0⟩ : S26), 2⟩ : S65)] : List S65).length 3] (by rfl) rfl rfl (by (try simp only [List.map_toArray, List.map_cons, List.map_nil]); first | done | rfl) ?_
  (with_reducible refine (watchmanref09_Same.calls 100 _ _ [(⟨5, (⟨2, 0⟩ : S26), 1⟩ : S65), (⟨15, (⟨2, 0⟩ : S26), 2⟩ : S65), (⟨30, (⟨1, 0⟩ : S26), 2⟩ : S65)] _ _ [(⟨5, (⟨2, 0⟩ : S26), 1⟩ : S65), (⟨15, (⟨2, 0⟩ : S26), 2⟩ : S65), (⟨30, (⟨1, 0⟩ : S26), 2⟩ : S65)] true _ ?s1 ?s2 ?s3 ?s4 watchmanlaw09_coming.e_same).mono ?_); (case s1 => exact HT.out.rc 0 rfl); (case s2 => exact HT.out.rl 0 rfl); (case s3 => exact T.C_turn3 (HT.out.get 2 rfl)); (case s4 => exact Nat.le_refl _)
  rintro e_ w_139 ⟨rfl, hd⟩; refine ⟨_, rfl, ?_⟩; replace HT := Aside0.mk (HT.out.step hd.below); clear hd
  refine hK.out _ _ ⟨(HT.out.bx 2 rfl 0).trans rfl, (HT.out.bx 2 rfl 1).trans rfl, (HT.out.bx 2 rfl 2).trans rfl, (HT.out.bx 2 rfl 3).trans rfl, (HT.out.bx 2 rfl 4).trans rfl, (HT.out.bx 2 rfl 5).trans rfl, (HT.out.bx 2 rfl 6).trans rfl, (HT.out.bx 2 rfl 7).trans rfl, (HT.out.bx 2 rfl 8).trans rfl, (HT.out.bx 2 rfl 9).trans rfl, (HT.out.bx 2 rfl 10).trans rfl, (HT.out.bx 2 rfl 11).trans rfl⟩ (fun hHeld => ?_); clear hK K; refine norm_ (a' := ?_) ?_ ?_
  rotate_left
  · show Act.put _ (some 139) _ = _
    simp only [Act.put, List.setIfInBounds_toArray, List.set_cons_zero, List.set_cons_succ, i64_w, i32_w]
    rfl
  have Q_ := Qs.mk (n := 67) [(0, 65, 140, 73786976294838206463), (0, 66, 0, 147573952589676412927)]
  iterate 2 (first | (obtain ⟨q_, Q_⟩ := Qs.p Q_; refine pureQ_ q_ (v := ?_) (a' := ?_) rfl rfl (any_of HT_.out (by kernel_rfl)) (fun _ _ _ h => h) (Or.inl ⟨by rfl, ?_⟩) ?_ ?_; rotate_left; (intro w'; go_simp; (first | (with_reducible rfl) | rfl)); rotate_left; (simp only [Act.put, List.setIfInBounds_toArray, List.set_cons_zero, List.set_cons_succ, i64_w, i32_w]; rfl)))
  clear Q_
  refine done_ (done_of HT_.out (by kernel_rfl)) ?_; clear hHeld
  go_wp2
  go_ret
  exact ⟨rfl, HT.out.below⟩

/-! ### watchmanlaw09_DueOrder: function 10 -/
mutual
def watchmanlaw09_DueOrder.l0 : Nat → List (S65) → List (S65) → List (S65) → Int → Option (Bool)
 | 0, _, _, _, _ => none
 | k + 1, x0, x3, x4, x5 => if x5 ≥ 0 then (if 0 ≤ x5 then (if x5 < (x0.length : Int) then (if x4.length < 4398046511104 then (watchmanlaw09_DueOrder.l0 k x0 x3 (x4 ++ [(⟨(rd_T65 x0 x5).f0, (⟨(rd_T65 x0 x5).f1.f0, (rd_T65 x0 x5).f1.f1⟩ : S26), (rd_T65 x0 x5).f2⟩ : S65)]) (wrap64 (x5 - 1))) else (none)) else (none)) else (none)) else (watchmanlaw09_DueOrder.l1 k x0 x3 x4 1)
def watchmanlaw09_DueOrder.l1 : Nat → List (S65) → List (S65) → List (S65) → Int → Option (Bool)
 | 0, _, _, _, _ => none
 | k + 1, x0, x3, x4, x6 => if x6 < (x3.length : Int) then (if 0 ≤ (wrap64 (x6 - 1)) then (if (wrap64 (x6 - 1)) < (x3.length : Int) then (if 0 ≤ x6 then (if ((rd_T65 x3 (wrap64 (x6 - 1))).f0) > ((rd_T65 x3 x6).f0) then (none) else (watchmanlaw09_DueOrder.l1 k x0 x3 x4 (wrap64 (x6 + 1)))) else (none)) else (none)) else (none)) else ((watchmanlaw09_coming.f).bind fun t323 => (if t323 = true then (if (x3.length : Int) = (x0.length : Int) then ((due_Order.f k x3).bind fun t324 => ((watchmanref09_Same.f k t324 x3).bind fun t327 => (if t327 = true then ((due_Order.f k x4).bind fun t328 => ((watchmanref09_Same.f k t328 x3).bind fun t331 => (some t331))) else (none)))) else (none)) else (none)))
end
def watchmanlaw09_DueOrder.f (k : Nat) (l0 : List (S65)) : Option (Bool) := if (l0.length : Int) > 60 then (some true) else ((due_Order.f k l0).bind fun t314 => (watchmanlaw09_DueOrder.l0 k l0 t314 ([] : List (S65)) (wrap64 ((l0.length : Int) - 1))))
theorem watchmanlaw09_DueOrder.mono_l : ∀ k, (∀ y0 y1 y2 y3, LeO (watchmanlaw09_DueOrder.l0 k y0 y1 y2 y3) (watchmanlaw09_DueOrder.l0 (k + 1) y0 y1 y2 y3)) ∧ (∀ y0 y1 y2 y3, LeO (watchmanlaw09_DueOrder.l1 k y0 y1 y2 y3) (watchmanlaw09_DueOrder.l1 (k + 1) y0 y1 y2 y3))
 | 0 => ⟨fun _ _ _ _ r h => by simp [watchmanlaw09_DueOrder.l0] at h, fun _ _ _ _ r h => by simp [watchmanlaw09_DueOrder.l1] at h⟩
 | k + 1 => by
  obtain ⟨ih0, ih1⟩ := watchmanlaw09_DueOrder.mono_l k
  refine ⟨?_, ?_⟩
  ·intro y0 y1 y2 y3
   unfold watchmanlaw09_DueOrder.l0
   repeat' first
   | (with_reducible exact ih0 _ _ _ _)
   | (with_reducible exact ih1 _ _ _ _)
   | (with_reducible exact due_Order.mono _ _)
   | (with_reducible exact watchmanref09_Same.mono _ _ _)
   | (with_reducible exact LeO.refl _)
   | (with_reducible exact LeO.none _)
   | (with_reducible refine LeO.ite ?_ ?_)
   | (with_reducible refine LeO.bind ?_ (fun _ => ?_))
   | exact ih0 _ _ _ _
   | exact ih1 _ _ _ _
   | exact due_Order.mono _ _
   | exact watchmanref09_Same.mono _ _ _
   | exact LeO.none _
   | refine LeO.ite ?_ ?_
   | refine LeO.bind ?_ (fun _ => ?_)
  ·intro y0 y1 y2 y3
   unfold watchmanlaw09_DueOrder.l1
   repeat' first
   | (with_reducible exact ih0 _ _ _ _)
   | (with_reducible exact ih1 _ _ _ _)
   | (with_reducible exact due_Order.mono _ _)
   | (with_reducible exact watchmanref09_Same.mono _ _ _)
   | (with_reducible exact LeO.refl _)
   | (with_reducible exact LeO.none _)
   | (with_reducible refine LeO.ite ?_ ?_)
   | (with_reducible refine LeO.bind ?_ (fun _ => ?_))
   | exact ih0 _ _ _ _
   | exact ih1 _ _ _ _
   | exact due_Order.mono _ _
   | exact watchmanref09_Same.mono _ _ _
   | exact LeO.none _
   | refine LeO.ite ?_ ?_
   | refine LeO.bind ?_ (fun _ => ?_)
theorem watchmanlaw09_DueOrder.mono : ∀ a0 k, LeO (watchmanlaw09_DueOrder.f k a0) (watchmanlaw09_DueOrder.f (k + 1) a0) := by
 intro a0 k
 obtain ⟨ih0, ih1⟩ := watchmanlaw09_DueOrder.mono_l k
 unfold watchmanlaw09_DueOrder.f
 repeat' first
   | (with_reducible exact ih0 _ _ _ _)
   | (with_reducible exact ih1 _ _ _ _)
   | (with_reducible exact due_Order.mono _ _)
   | (with_reducible exact watchmanref09_Same.mono _ _ _)
   | (with_reducible exact LeO.refl _)
   | (with_reducible exact LeO.none _)
   | (with_reducible refine LeO.ite ?_ ?_)
   | (with_reducible refine LeO.bind ?_ (fun _ => ?_))
   | exact ih0 _ _ _ _
   | exact ih1 _ _ _ _
   | exact due_Order.mono _ _
   | exact watchmanref09_Same.mono _ _ _
   | exact LeO.none _
   | refine LeO.ite ?_ ?_
   | refine LeO.bind ?_ (fun _ => ?_)
set_option maxHeartbeats 8000000 in
set_option maxRecDepth 100000 in
theorem watchmanlaw09_DueOrder.calls (k : Nat) (A0 : Option Addr) (c0 : Nat) (l0 : List (S65)) (r : Bool) (w : World) (hr0 : Kd.C k65 w A0 l0.length l0) (hc0 : l0.length ≤ c0) (h : watchmanlaw09_DueOrder.f k l0 = some r) :
  Calls Try.prog 10 #[.slice A0 l0.length c0] w fun e w' => e = .returned (.bool r) ∧ Below w.heap.size w w' := by
 have hu65 := Try.underlying65
 have HR0 := Aside0.mk hr0
 have HC0 := Aside0.mk hc0
 clear hr0 hc0
 have HB := Aside0.mk (Below.refl w.heap.size w)
 have H : (if (l0.length : Int) > 60 then (some true) else ((due_Order.f k l0).bind fun t314 => (watchmanlaw09_DueOrder.l0 k l0 t314 ([] : List (S65)) (wrap64 ((l0.length : Int) - 1))))) = some r := h
 clear h
 by_cases c2 : (l0.length : Int) > 60
 ·rw [if_pos c2] at H
  have c2b0 : decide (60 < (l0.length : Int)) = true := decide_eq_true c2
  have c2b1 : decide (60 < l0.length) = true := decide_eq_true (by omega)
  clear c2
  obtain rfl := Option.some.inj H
  go_enter Try.func10, Try.ntmps10
  go_wp2
  repeat (go_quiet (fail); try go_wp2)
  go_ret
  exact ⟨by first | rfl | (simp [errW_none, errW_some] <;> rfl) | (simp [*, errW_none, errW_some] <;> rfl), by repeat (first | (with_reducible first | exact HB.out | apply below_alloc | apply pw_below_drewN | apply below_drew1) | exact HB.out)⟩
 ·rw [if_neg c2] at H
  have c2b0 : decide (60 < (l0.length : Int)) = false := decide_eq_false c2
  have c2b1 : decide (60 < l0.length) = false := decide_eq_false (by omega)
  clear c2
  replace H := Option.bind_eq_some_iff.mp H
  obtain ⟨t314, A30, H⟩ := H
  try dsimp only at H
  have A3 := Aside0.mk A30
  clear A30
  have H' := Aside0.mk H
  clear H
  go_enter Try.func10, Try.ntmps10
  go_wp2_with (first | (go_at_call 47; (with_reducible refine (due_Order.calls k _ _ l0 t314 _ ?side1 ?side2 A3.out).mono ?_); (case side1 => repeat (first | exact HR0.out | (with_reducible refine Kd.C_alloc ?_ _) | (with_reducible refine Kd.C_drewN ?_ _) | (with_reducible refine Kd.C_drew ?_))); (case side2 => exact HC0.out); rintro e w4 ⟨v315, rfl, ho0, hb⟩; have HO316 := Aside0.mk (Kd.R_lower ho0 (below_size (by repeat (first | (with_reducible first | exact HB.out | apply below_alloc | apply pw_below_drewN | apply below_drew1) | exact HB.out)))); replace HB := Aside0.mk (below_step (by repeat (first | (with_reducible first | exact HB.out | apply below_alloc | apply pw_below_drewN | apply below_drew1) | exact HB.out)) hb); (try clear hb); (try clear hb2); (try clear hk); (try clear hi); (try clear ho0)))
  repeat (go_quiet (first | (go_at_call 47; (with_reducible refine (due_Order.calls k _ _ l0 t314 _ ?side1 ?side2 A3.out).mono ?_); (case side1 => repeat (first | exact HR0.out | (with_reducible refine Kd.C_alloc ?_ _) | (with_reducible refine Kd.C_drewN ?_ _) | (with_reducible refine Kd.C_drew ?_))); (case side2 => exact HC0.out); (try clear A3); rintro e w4 ⟨v315, rfl, ho0, hb⟩; have HO316 := Aside0.mk (Kd.R_lower ho0 (below_size (by repeat (first | (with_reducible first | exact HB.out | apply below_alloc | apply pw_below_drewN | apply below_drew1) | exact HB.out)))); replace HB := Aside0.mk (below_step (by repeat (first | (with_reducible first | exact HB.out | apply below_alloc | apply pw_below_drewN | apply below_drew1) | exact HB.out)) hb); (try clear hb); (try clear hb2); (try clear hk); (try clear hi); (try clear ho0))); try go_wp2_with (first | (go_at_call 47; (with_reducible refine (due_Order.calls k _ _ l0 t314 _ ?side1 ?side2 A3.out).mono ?_); (case side1 => repeat (first | exact HR0.out | (with_reducible refine Kd.C_alloc ?_ _) | (with_reducible refine Kd.C_drewN ?_ _) | (with_reducible refine Kd.C_drew ?_))); (case side2 => exact HC0.out); (try clear A3); rintro e w4 ⟨v315, rfl, ho0, hb⟩; have HO316 := Aside0.mk (Kd.R_lower ho0 (below_size (by repeat (first | (with_reducible first | exact HB.out | apply below_alloc | apply pw_below_drewN | apply below_drew1) | exact HB.out)))); replace HB := Aside0.mk (below_step (by repeat (first | (with_reducible first | exact HB.out | apply below_alloc | apply pw_below_drewN | apply below_drew1) | exact HB.out)) hb); (try clear hb); (try clear hb2); (try clear hk); (try clear hi); (try clear ho0))))
  go_loopg [4, 5] k (fun kq v4 v5 w' => ∃ (x4_1 : List (S65)) (x5_1 : Int), v5 = .int .i64 x5_1 ∧ Aside0 (watchmanlaw09_DueOrder.l0 kq l0 t314 x4_1 x5_1 = some r) ∧ Aside0 (kq ≤ k) ∧ Aside0 (Kd.R k65 65 w' w.heap.size (fun k_ => some k_ ≠ (v4 : Value).ownBlock) v315 t314) ∧ Aside0 (Kd.R k65 65 w' w.heap.size (fun k_ => some k_ ≠ (v315 : Value).ownBlock) v4 x4_1) ∧ Aside0 (Below w.heap.size w w'))
  case atStart => exact ⟨(([] : List (S65))), (wrap64 ((l0.length : Int) - 1)), (by first | rfl | (simp; done) | (simp [*]; done)), H', ⟨Nat.le_refl _⟩, ⟨by (with_reducible repeat (first | apply Kd.R_alloc | apply Kd.R_drewN | apply Kd.R_drew)); exact Kd.R_mono HO316.out (fun _ hk => (by simp [Value.ownBlock]))⟩, ⟨by first | exact Kd.R_nil _ _ _ _ _ | exact Kd.N_nil _ _ _ _ _ | exact Kd.V_nil _ _ _ _ _ | exact Kd.Q_nil _ _ _ _ _ | exact Kd.S_nil _ _ _ _ _⟩, ⟨by repeat (first | (with_reducible first | exact HB.out | apply below_alloc | apply pw_below_drewN | apply below_drew1) | exact HB.out)⟩⟩
  case round =>
   clear H'
   try clear c1; try clear c2; try clear c2b0; try clear c2b1; try clear p2
   obtain ⟨x4_1, x5_1, rfl, HA, HK1, HO_3, HO_4, HB⟩ := hrel
   cases gk with
   | zero => exact absurd HA.out (by simp [watchmanlaw09_DueOrder.l0])
   | succ k1 =>
    have H := HA.out
    clear HA
    simp only [watchmanlaw09_DueOrder.l0] at H
    by_cases c5 : x5_1 ≥ 0
    ·rw [if_pos c5] at H
     have c5b0 : decide (0 ≤ x5_1) = true := decide_eq_true c5
     clear c5
     by_cases c6 : 0 ≤ x5_1
     ·rw [if_pos c6] at H
      have c6b0 : decide (0 ≤ x5_1) = true := decide_eq_true c6
      clear c6
      by_cases c7 : x5_1 < (l0.length : Int)
      ·rw [if_pos c7] at H
       have c7b0 : decide (x5_1 < (l0.length : Int)) = true := decide_eq_true c7
       clear c7
       by_cases c8 : x4_1.length < 4398046511104
       ·rw [if_pos c8] at H
        have LMc8 := Aside0.mk c8
        clear c8
        obtain ⟨y318, hy318⟩ : ∃ y_ : List (S65), y_ = (x4_1 ++ [(⟨(rd_T65 l0 x5_1).f0, (⟨(rd_T65 l0 x5_1).f1.f0, (rd_T65 l0 x5_1).f1.f1⟩ : S26), (rd_T65 l0 x5_1).f2⟩ : S65)]) := ⟨_, rfl⟩
        replace H : (watchmanlaw09_DueOrder.l0 k1 l0 t314 y318 (wrap64 (x5_1 - 1))) = some r := by first | (rw [hy318]; with_reducible exact H) | (have H2_ := (Option.bind_some _ _).symm.trans H; rw [hy318]; with_reducible exact H2_) | (have H2_ := (Option.bind_some _ _).symm.trans H; with_reducible exact H2_) | with_reducible exact H | (rw [hy318]; exact H) | exact H
        have Ny318 := Aside0.mk hy318
        clear hy318
        have H' := Aside0.mk H
        clear H
        have p317 : 0 ≤ (x5_1 : Int) := of_decide_eq_true (by first | (with_reducible assumption) | assumption)
        have q317 : x5_1 < (l0.length : Int) := of_decide_eq_true (by first | (with_reducible assumption) | assumption)
        obtain ⟨ad317, e317, hx317_0, hx317_1, hx317_2, hx317_3⟩ := at_T65 HR0.out x5_1 p317 q317
        cases e317
        replace hx317_0 := (HB.out.cell (World.block_lt_of_cell? w _ hx317_0)).trans hx317_0
        replace hx317_1 := (HB.out.cell (World.block_lt_of_cell? w _ hx317_1)).trans hx317_1
        replace hx317_2 := (HB.out.cell (World.block_lt_of_cell? w _ hx317_2)).trans hx317_2
        replace hx317_3 := (HB.out.cell (World.block_lt_of_cell? w _ hx317_3)).trans hx317_3
        replace p317 := eq_true p317
        replace q317 := eq_true q317
        go_wp2_with (first | ((with_reducible refine gate_builtin (b := .append) (xs := #[.tmp 19, .tmp 24]) rfl ?_); (try (refine gate_guard (by rfl) ?_; dsimp only)); at_builtin; refine Kd.R_append k65 (w0 := w) w.heap.size rfl (.tmp 19) (.tmp 24) 53 65 (.agg #[(.int .i64 0), (.int .i64 0), (.int .i64 0), (.int .i64 0)]) 32 rfl Try.underlying53 info65 rfl (by decide) (by omega) u4 x4_1 (⟨(rd_T65 l0 x5_1).f0, (⟨(rd_T65 l0 x5_1).f1.f0, (rd_T65 l0 x5_1).f1.f1⟩ : S26), (rd_T65 l0 x5_1).f2⟩ : S65) [.int .i64 ((rd_T65 l0 x5_1).f0), .int .i64 ((rd_T65 l0 x5_1).f1.f0), .int .i64 ((rd_T65 l0 x5_1).f1.f1), .int .i64 ((rd_T65 l0 x5_1).f2)] (fun k_ => some k_ ≠ (v315 : Value).ownBlock) (fun _ => False) rfl rfl ?aP (fun _ hk => hk.elim) ?aF ?aO ?aB ?aS ?aL ?_; (case aP => exact k65_mkM _ _ _ (⟨(rd_T65 l0 x5_1).f0, (⟨(rd_T65 l0 x5_1).f1.f0, (rd_T65 l0 x5_1).f1.f1⟩ : S26), (rd_T65 l0 x5_1).f2⟩ : S65)); (case aB => exact (by repeat (first | (with_reducible first | exact HB.out | apply below_alloc | apply pw_below_drewN | apply below_drew1) | exact HB.out))); (case aF => exact (fun k_ hk => Kd.fresh' (Kd.R_lt (by (with_reducible repeat (first | apply Kd.R_alloc | apply Kd.R_drewN | apply Kd.R_drew)); exact HO_3.out)) k_ hk)); (case aO => exact (by (with_reducible repeat (first | apply Kd.R_alloc | apply Kd.R_drewN | apply Kd.R_drew)); exact HO_4.out)); (case aS => exact (below_size (by repeat (first | (with_reducible first | exact HB.out | apply below_alloc | apply pw_below_drewN | apply below_drew1) | exact HB.out)))); (case aL => have := LMc8.out; omega); intro v319 w9 ho hb hg hat; rw [← Ny318.out] at ho; replace HO_3 := Aside0.mk (Kd.R_after (ok := (fun _ => True)) (by (with_reducible repeat (first | apply Kd.R_alloc | apply Kd.R_drewN | apply Kd.R_drew)); exact Kd.R_mono HO_3.out (fun _ hk => ⟨trivial, hk⟩)) hg hat); replace HB := Aside0.mk (hb); have HO320 := Aside0.mk (ho); clear HO_4; clear ho hb hg hat))
        repeat (go_quiet (first | ((with_reducible refine gate_builtin (b := .append) (xs := #[.tmp 19, .tmp 24]) rfl ?_); (try (refine gate_guard (by rfl) ?_; dsimp only)); at_builtin; refine Kd.R_append k65 (w0 := w) w.heap.size rfl (.tmp 19) (.tmp 24) 53 65 (.agg #[(.int .i64 0), (.int .i64 0), (.int .i64 0), (.int .i64 0)]) 32 rfl Try.underlying53 info65 rfl (by decide) (by omega) u4 x4_1 (⟨(rd_T65 l0 x5_1).f0, (⟨(rd_T65 l0 x5_1).f1.f0, (rd_T65 l0 x5_1).f1.f1⟩ : S26), (rd_T65 l0 x5_1).f2⟩ : S65) [.int .i64 ((rd_T65 l0 x5_1).f0), .int .i64 ((rd_T65 l0 x5_1).f1.f0), .int .i64 ((rd_T65 l0 x5_1).f1.f1), .int .i64 ((rd_T65 l0 x5_1).f2)] (fun k_ => some k_ ≠ (v315 : Value).ownBlock) (fun _ => False) rfl rfl ?aP (fun _ hk => hk.elim) ?aF ?aO ?aB ?aS ?aL ?_; (case aP => exact k65_mkM _ _ _ (⟨(rd_T65 l0 x5_1).f0, (⟨(rd_T65 l0 x5_1).f1.f0, (rd_T65 l0 x5_1).f1.f1⟩ : S26), (rd_T65 l0 x5_1).f2⟩ : S65)); (case aB => exact (by repeat (first | (with_reducible first | exact HB.out | apply below_alloc | apply pw_below_drewN | apply below_drew1) | exact HB.out))); (case aF => exact (fun k_ hk => Kd.fresh' (Kd.R_lt (by (with_reducible repeat (first | apply Kd.R_alloc | apply Kd.R_drewN | apply Kd.R_drew)); exact HO_3.out)) k_ hk)); (case aO => exact (by (with_reducible repeat (first | apply Kd.R_alloc | apply Kd.R_drewN | apply Kd.R_drew)); exact HO_4.out)); (case aS => exact (below_size (by repeat (first | (with_reducible first | exact HB.out | apply below_alloc | apply pw_below_drewN | apply below_drew1) | exact HB.out)))); (case aL => have := LMc8.out; omega); intro v319 w9 ho hb hg hat; rw [← Ny318.out] at ho; replace HO_3 := Aside0.mk (Kd.R_after (ok := (fun _ => True)) (by (with_reducible repeat (first | apply Kd.R_alloc | apply Kd.R_drewN | apply Kd.R_drew)); exact Kd.R_mono HO_3.out (fun _ hk => ⟨trivial, hk⟩)) hg hat); replace HB := Aside0.mk (hb); have HO320 := Aside0.mk (ho); clear HO_4; clear ho hb hg hat)); try go_wp2_with (first | ((with_reducible refine gate_builtin (b := .append) (xs := #[.tmp 19, .tmp 24]) rfl ?_); (try (refine gate_guard (by rfl) ?_; dsimp only)); at_builtin; refine Kd.R_append k65 (w0 := w) w.heap.size rfl (.tmp 19) (.tmp 24) 53 65 (.agg #[(.int .i64 0), (.int .i64 0), (.int .i64 0), (.int .i64 0)]) 32 rfl Try.underlying53 info65 rfl (by decide) (by omega) u4 x4_1 (⟨(rd_T65 l0 x5_1).f0, (⟨(rd_T65 l0 x5_1).f1.f0, (rd_T65 l0 x5_1).f1.f1⟩ : S26), (rd_T65 l0 x5_1).f2⟩ : S65) [.int .i64 ((rd_T65 l0 x5_1).f0), .int .i64 ((rd_T65 l0 x5_1).f1.f0), .int .i64 ((rd_T65 l0 x5_1).f1.f1), .int .i64 ((rd_T65 l0 x5_1).f2)] (fun k_ => some k_ ≠ (v315 : Value).ownBlock) (fun _ => False) rfl rfl ?aP (fun _ hk => hk.elim) ?aF ?aO ?aB ?aS ?aL ?_; (case aP => exact k65_mkM _ _ _ (⟨(rd_T65 l0 x5_1).f0, (⟨(rd_T65 l0 x5_1).f1.f0, (rd_T65 l0 x5_1).f1.f1⟩ : S26), (rd_T65 l0 x5_1).f2⟩ : S65)); (case aB => exact (by repeat (first | (with_reducible first | exact HB.out | apply below_alloc | apply pw_below_drewN | apply below_drew1) | exact HB.out))); (case aF => exact (fun k_ hk => Kd.fresh' (Kd.R_lt (by (with_reducible repeat (first | apply Kd.R_alloc | apply Kd.R_drewN | apply Kd.R_drew)); exact HO_3.out)) k_ hk)); (case aO => exact (by (with_reducible repeat (first | apply Kd.R_alloc | apply Kd.R_drewN | apply Kd.R_drew)); exact HO_4.out)); (case aS => exact (below_size (by repeat (first | (with_reducible first | exact HB.out | apply below_alloc | apply pw_below_drewN | apply below_drew1) | exact HB.out)))); (case aL => have := LMc8.out; omega); intro v319 w9 ho hb hg hat; rw [← Ny318.out] at ho; replace HO_3 := Aside0.mk (Kd.R_after (ok := (fun _ => True)) (by (with_reducible repeat (first | apply Kd.R_alloc | apply Kd.R_drewN | apply Kd.R_drew)); exact Kd.R_mono HO_3.out (fun _ hk => ⟨trivial, hk⟩)) hg hat); replace HB := Aside0.mk (hb); have HO320 := Aside0.mk (ho); clear HO_4; clear ho hb hg hat)))
        go_roundg k1
        case measure => have := HK1.out; omega
        case rel => exact ⟨(y318), (wrap64 (x5_1 - 1)), (by first | rfl | (simp; done) | (simp [*]; done)), H', ⟨by have := HK1.out; omega⟩, ⟨by (with_reducible repeat (first | apply Kd.R_alloc | apply Kd.R_drewN | apply Kd.R_drew)); exact Kd.R_mono HO_3.out (fun _ hk => hk.2)⟩, ⟨by (with_reducible repeat (first | apply Kd.R_alloc | apply Kd.R_drewN | apply Kd.R_drew)); exact HO320.out⟩, ⟨by repeat (first | (with_reducible first | exact HB.out | apply below_alloc | apply pw_below_drewN | apply below_drew1) | exact HB.out)⟩⟩
       ·rw [if_neg c8] at H
        exact absurd H (by simp)
      ·rw [if_neg c7] at H
       exact absurd H (by simp)
     ·rw [if_neg c6] at H
      exact absurd H (by simp)
    ·rw [if_neg c5] at H
     have c5b0 : decide (0 ≤ x5_1) = false := decide_eq_false c5
     clear c5
     have H' := Aside0.mk H
     clear H
     go_wp2
     repeat (go_quiet (fail); try go_wp2)
     go_loopg [6] k1 (fun kq v6 w' => ∃ (x6_2 : Int), v6 = .int .i64 x6_2 ∧ Aside0 (watchmanlaw09_DueOrder.l1 kq l0 t314 x4_1 x6_2 = some r) ∧ Aside0 (kq ≤ k1) ∧ Aside0 (Kd.R k65 65 w' w.heap.size (fun k_ => some k_ ≠ (u4 : Value).ownBlock) v315 t314) ∧ Aside0 (Kd.R k65 65 w' w.heap.size (fun k_ => some k_ ≠ (v315 : Value).ownBlock) u4 x4_1) ∧ Aside0 (Below w.heap.size w w'))
     case atStart => exact ⟨(1), (by first | rfl | (simp; done) | (simp [*]; done)), H', ⟨Nat.le_refl _⟩, ⟨by (with_reducible repeat (first | apply Kd.R_alloc | apply Kd.R_drewN | apply Kd.R_drew)); exact HO_3.out⟩, ⟨by (with_reducible repeat (first | apply Kd.R_alloc | apply Kd.R_drewN | apply Kd.R_drew)); exact HO_4.out⟩, ⟨by repeat (first | (with_reducible first | exact HB.out | apply below_alloc | apply pw_below_drewN | apply below_drew1) | exact HB.out)⟩⟩
     case round =>
      clear H'
      try clear c1; try clear c2; try clear c2b0; try clear c2b1; try clear p2; try clear p3; try clear q3; try clear hx3; try clear c5; try clear c5b0; try clear c6; try clear c6b0; try clear p6; try clear c7; try clear c7b0; try clear c8; try clear hx317_0; try clear hx317_1; try clear hx317_2; try clear hx317_3; try clear p2; try clear p317; try clear q317
      obtain ⟨x6_2, rfl, HA, HK2, HO_3, HO_4, HB⟩ := hrel
      cases gk with
      | zero => exact absurd HA.out (by simp [watchmanlaw09_DueOrder.l1])
      | succ k2 =>
       have H := HA.out
       clear HA
       simp only [watchmanlaw09_DueOrder.l1] at H
       by_cases c10 : x6_2 < (t314.length : Int)
       ·rw [if_pos c10] at H
        have c10b0 : decide (x6_2 < (t314.length : Int)) = true := decide_eq_true c10
        clear c10
        obtain ⟨ji11, hji11⟩ : ∃ j_ : Int, (wrap64 (x6_2 - 1)) = j_ := ⟨_, rfl⟩
        replace H : (if 0 ≤ (ji11) then (if (ji11) < (t314.length : Int) then (if 0 ≤ x6_2 then (if ((rd_T65 t314 (ji11)).f0) > ((rd_T65 t314 x6_2).f0) then (none) else (watchmanlaw09_DueOrder.l1 k2 l0 t314 x4_1 (wrap64 (x6_2 + 1)))) else (none)) else (none)) else (none)) = some r := by first | (rw [hji11] at H; exact H) | (simp only [hji11] at H ⊢; exact H)
        have hji11w : (IntKind.i64.wrap (x6_2 - 1)) = ji11 := (i64_w _).trans hji11
        by_cases c12 : 0 ≤ (ji11)
        ·rw [if_pos c12] at H
         have c12b0 : decide (0 ≤ (ji11)) = true := decide_eq_true c12
         clear c12
         by_cases c13 : (ji11) < (t314.length : Int)
         ·rw [if_pos c13] at H
          have c13b0 : decide ((ji11) < (t314.length : Int)) = true := decide_eq_true c13
          clear c13
          by_cases c14 : 0 ≤ x6_2
          ·rw [if_pos c14] at H
           have c14b0 : decide (0 ≤ x6_2) = true := decide_eq_true c14
           clear c14
           by_cases c15 : ((rd_T65 t314 (ji11)).f0) > ((rd_T65 t314 x6_2).f0)
           ·rw [if_pos c15] at H
            exact absurd H (by simp)
           ·rw [if_neg c15] at H
            have c15b0 : decide (((rd_T65 t314 x6_2).f0) < ((rd_T65 t314 (ji11)).f0)) = false := decide_eq_false c15
            clear c15
            have H' := Aside0.mk H
            clear H
            obtain ⟨Ao16, co16, eo16⟩ := Kd.R_slice HO_3.out
            subst eo16
            have p321 : 0 ≤ ((ji11) : Int) := of_decide_eq_true (by first | (with_reducible assumption) | assumption)
            have q321 : (ji11) < (t314.length : Int) := of_decide_eq_true (by first | (with_reducible assumption) | assumption)
            obtain ⟨ad321, e321, hx321_0, hx321_1, hx321_2, hx321_3⟩ := at_T65 (Kd.R_reads' HO_3.out).2.2 (ji11) p321 q321
            cases e321
            replace p321 := eq_true p321
            replace q321 := eq_true q321
            have p322 : 0 ≤ (x6_2 : Int) := of_decide_eq_true (by first | (with_reducible assumption) | assumption)
            have q322 : x6_2 < (t314.length : Int) := of_decide_eq_true (by first | (with_reducible assumption) | assumption)
            obtain ⟨ad322, e322, hx322_0, hx322_1, hx322_2, hx322_3⟩ := at_T65 (Kd.R_reads' HO_3.out).2.2 x6_2 p322 q322
            obtain rfl : ad321 = ad322 := (by injection e322)
            replace p322 := eq_true p322
            replace q322 := eq_true q322
            go_wp2
            repeat (go_quiet (fail); try go_wp2)
            go_roundg k2
            case measure => have := HK1.out; have := HK2.out; omega
            case rel => exact ⟨(wrap64 (x6_2 + 1)), (by first | rfl | (simp; done) | (simp [*]; done)), H', ⟨by have := HK1.out; have := HK2.out; omega⟩, ⟨by (with_reducible repeat (first | apply Kd.R_alloc | apply Kd.R_drewN | apply Kd.R_drew)); exact HO_3.out⟩, ⟨by (with_reducible repeat (first | apply Kd.R_alloc | apply Kd.R_drewN | apply Kd.R_drew)); exact HO_4.out⟩, ⟨by repeat (first | (with_reducible first | exact HB.out | apply below_alloc | apply pw_below_drewN | apply below_drew1) | exact HB.out)⟩⟩
          ·rw [if_neg c14] at H
           exact absurd H (by simp)
         ·rw [if_neg c13] at H
          exact absurd H (by simp)
        ·rw [if_neg c12] at H
         exact absurd H (by simp)
       ·rw [if_neg c10] at H
        have c10b0 : decide (x6_2 < (t314.length : Int)) = false := decide_eq_false c10
        clear c10
        replace H := Option.bind_eq_some_iff.mp H
        obtain ⟨t323, A170, H⟩ := H
        try dsimp only at H
        have A17 := Aside0.mk A170
        clear A170
        by_cases c18 : t323 = true
        ·subst c18
         rw [if_pos rfl] at H; try dsimp only at H
         by_cases c19 : (t314.length : Int) = (l0.length : Int)
         ·rw [if_pos c19] at H
          have c19b0 : ((t314.length : Int) == (l0.length : Int)) = true := beq_iff_eq.mpr c19
          have c19b1 : ((t314.length : Int) != (l0.length : Int)) = false := bne_eq_false_iff_eq.mpr c19
          have c19b2 : (t314.length == l0.length) = true := by first | simpa using c19 | (simp at c19 ⊢; omega)
          clear c19
          replace H := Option.bind_eq_some_iff.mp H
          obtain ⟨t324, A200, H⟩ := H
          try dsimp only at H
          have A20 := Aside0.mk A200
          clear A200
          replace H := Option.bind_eq_some_iff.mp H
          obtain ⟨t327, A210, H⟩ := H
          try dsimp only at H
          have A21 := Aside0.mk A210
          clear A210
          by_cases c22 : t327 = true
          ·subst c22
           rw [if_pos rfl] at H; try dsimp only at H
           replace H := Option.bind_eq_some_iff.mp H
           obtain ⟨t328, A230, H⟩ := H
           try dsimp only at H
           have A23 := Aside0.mk A230
           clear A230
           replace H := Option.bind_eq_some_iff.mp H
           obtain ⟨t331, A240, H⟩ := H
           try dsimp only at H
           have A24 := Aside0.mk A240
           clear A240
           obtain rfl := Option.some.inj H
           obtain ⟨Ao25, co25, eo25⟩ := Kd.R_slice HO_3.out
           subst eo25
           go_wp2_with (first | (go_at_call 46; (with_reducible refine (watchmanlaw09_coming.calls  true _ A17.out).mono ?_); rintro e w26 ⟨rfl, hb⟩; replace HO_3 := Aside0.mk (Kd.R_below (by (with_reducible repeat (first | apply Kd.R_alloc | apply Kd.R_drewN | apply Kd.R_drew)); exact HO_3.out) hb); replace HO_4 := Aside0.mk (Kd.R_below (by (with_reducible repeat (first | apply Kd.R_alloc | apply Kd.R_drewN | apply Kd.R_drew)); exact HO_4.out) hb); replace HB := Aside0.mk (below_step (by repeat (first | (with_reducible first | exact HB.out | apply below_alloc | apply pw_below_drewN | apply below_drew1) | exact HB.out)) hb); (try clear hb); (try clear hb2); (try clear hk); (try clear hi)) | (go_at_call 47; (with_reducible refine (due_Order.calls k2 _ _ t314 t324 _ ?side1 ?side2 A20.out).mono ?_); (case side1 => repeat (first | exact (Kd.R_reads' HO_3.out).2.2 | (with_reducible refine Kd.C_alloc ?_ _) | (with_reducible refine Kd.C_drewN ?_ _) | (with_reducible refine Kd.C_drew ?_))); (case side2 => exact (Kd.R_reads' HO_3.out).2.1); (try clear A20); rintro e w27 ⟨v325, rfl, ho0, hb⟩; have HO326 := Aside0.mk (Kd.R_lower (Kd.R_new' (Kd.R_new' ho0 (Kd.R_lt (by (with_reducible repeat (first | apply Kd.R_alloc | apply Kd.R_drewN | apply Kd.R_drew)); exact HO_3.out))) (Kd.R_lt (by (with_reducible repeat (first | apply Kd.R_alloc | apply Kd.R_drewN | apply Kd.R_drew)); exact HO_4.out))) (below_size (by repeat (first | (with_reducible first | exact HB.out | apply below_alloc | apply pw_below_drewN | apply below_drew1) | exact HB.out)))); replace HO_3 := Aside0.mk (Kd.R_elder' (by (with_reducible repeat (first | apply Kd.R_alloc | apply Kd.R_drewN | apply Kd.R_drew)); exact HO_3.out) (Kd.R_base ho0) hb); replace HO_4 := Aside0.mk (Kd.R_elder' (by (with_reducible repeat (first | apply Kd.R_alloc | apply Kd.R_drewN | apply Kd.R_drew)); exact HO_4.out) (Kd.R_base ho0) hb); replace HB := Aside0.mk (below_step (by repeat (first | (with_reducible first | exact HB.out | apply below_alloc | apply pw_below_drewN | apply below_drew1) | exact HB.out)) hb); (try clear hb); (try clear hb2); (try clear hk); (try clear hi); (try clear ho0); obtain ⟨Ao28, co28, eo28⟩ := Kd.R_slice HO326.out; subst eo28) | (go_at_call 45; (with_reducible refine (watchmanref09_Same.calls k2 _ _ t324 _ _ t314 true _ ?side1 ?side2 ?side3 ?side4 A21.out).mono ?_); (case side1 => repeat (first | exact (Kd.R_reads' HO326.out).2.2 | (with_reducible refine Kd.C_alloc ?_ _) | (with_reducible refine Kd.C_drewN ?_ _) | (with_reducible refine Kd.C_drew ?_))); (case side2 => exact (Kd.R_reads' HO326.out).2.1); (case side3 => repeat (first | exact (Kd.R_reads' HO_3.out).2.2 | (with_reducible refine Kd.C_alloc ?_ _) | (with_reducible refine Kd.C_drewN ?_ _) | (with_reducible refine Kd.C_drew ?_))); (case side4 => exact (Kd.R_reads' HO_3.out).2.1); (try clear A21); rintro e w' ⟨rfl, ⟨nd, rfl⟩⟩; (try first | exact ⟨rfl, _, World.drewN_drewN _ _ _⟩ | exact ⟨rfl, _, Eq.trans (World.drewN_drewN _ _ _) (congrArg (World.drewN _) (Nat.add_assoc _ _ _))⟩); obtain ⟨Ao29, co29, eo29⟩ := Kd.R_slice HO_4.out; subst eo29) | (go_at_call 47; (with_reducible refine (due_Order.calls k2 _ _ x4_1 t328 _ ?side1 ?side2 A23.out).mono ?_); (case side1 => repeat (first | exact (Kd.R_reads' HO_4.out).2.2 | (with_reducible refine Kd.C_alloc ?_ _) | (with_reducible refine Kd.C_drewN ?_ _) | (with_reducible refine Kd.C_drew ?_))); (case side2 => exact (Kd.R_reads' HO_4.out).2.1); (try clear A23); rintro e w30 ⟨v329, rfl, ho0, hb⟩; have HO330 := Aside0.mk (Kd.R_lower (Kd.R_new' (Kd.R_new' (Kd.R_new' ho0 (Kd.R_lt (by (with_reducible repeat (first | apply Kd.R_alloc | apply Kd.R_drewN | apply Kd.R_drew)); exact HO_3.out))) (Kd.R_lt (by (with_reducible repeat (first | apply Kd.R_alloc | apply Kd.R_drewN | apply Kd.R_drew)); exact HO_4.out))) (Kd.R_lt (by (with_reducible repeat (first | apply Kd.R_alloc | apply Kd.R_drewN | apply Kd.R_drew)); exact HO326.out))) (below_size (by repeat (first | (with_reducible first | exact HB.out | apply below_alloc | apply pw_below_drewN | apply below_drew1) | exact HB.out)))); replace HO_3 := Aside0.mk (Kd.R_elder' (by (with_reducible repeat (first | apply Kd.R_alloc | apply Kd.R_drewN | apply Kd.R_drew)); exact HO_3.out) (Kd.R_base ho0) hb); replace HO_4 := Aside0.mk (Kd.R_elder' (by (with_reducible repeat (first | apply Kd.R_alloc | apply Kd.R_drewN | apply Kd.R_drew)); exact HO_4.out) (Kd.R_base ho0) hb); replace HO326 := Aside0.mk (Kd.R_elder' (by (with_reducible repeat (first | apply Kd.R_alloc | apply Kd.R_drewN | apply Kd.R_drew)); exact HO326.out) (Kd.R_base ho0) hb); replace HB := Aside0.mk (below_step (by repeat (first | (with_reducible first | exact HB.out | apply below_alloc | apply pw_below_drewN | apply below_drew1) | exact HB.out)) hb); (try clear hb); (try clear hb2); (try clear hk); (try clear hi); (try clear ho0); obtain ⟨Ao31, co31, eo31⟩ := Kd.R_slice HO330.out; subst eo31) | (go_at_call 45; (with_reducible refine (watchmanref09_Same.calls k2 _ _ t328 _ _ t314 t331 _ ?side1 ?side2 ?side3 ?side4 A24.out).mono ?_); (case side1 => repeat (first | exact (Kd.R_reads' HO330.out).2.2 | (with_reducible refine Kd.C_alloc ?_ _) | (with_reducible refine Kd.C_drewN ?_ _) | (with_reducible refine Kd.C_drew ?_))); (case side2 => exact (Kd.R_reads' HO330.out).2.1); (case side3 => repeat (first | exact (Kd.R_reads' HO_3.out).2.2 | (with_reducible refine Kd.C_alloc ?_ _) | (with_reducible refine Kd.C_drewN ?_ _) | (with_reducible refine Kd.C_drew ?_))); (case side4 => exact (Kd.R_reads' HO_3.out).2.1); (try clear A24); rintro e w' ⟨rfl, ⟨nd, rfl⟩⟩; (try first | exact ⟨rfl, _, World.drewN_drewN _ _ _⟩ | exact ⟨rfl, _, Eq.trans (World.drewN_drewN _ _ _) (congrArg (World.drewN _) (Nat.add_assoc _ _ _))⟩)))
           repeat (go_quiet (first | (go_at_call 46; (with_reducible refine (watchmanlaw09_coming.calls  true _ A17.out).mono ?_); (try clear A17); rintro e w26 ⟨rfl, hb⟩; replace HO_3 := Aside0.mk (Kd.R_below (by (with_reducible repeat (first | apply Kd.R_alloc | apply Kd.R_drewN | apply Kd.R_drew)); exact HO_3.out) hb); replace HO_4 := Aside0.mk (Kd.R_below (by (with_reducible repeat (first | apply Kd.R_alloc | apply Kd.R_drewN | apply Kd.R_drew)); exact HO_4.out) hb); replace HB := Aside0.mk (below_step (by repeat (first | (with_reducible first | exact HB.out | apply below_alloc | apply pw_below_drewN | apply below_drew1) | exact HB.out)) hb); (try clear hb); (try clear hb2); (try clear hk); (try clear hi)) | (go_at_call 47; (with_reducible refine (due_Order.calls k2 _ _ t314 t324 _ ?side1 ?side2 A20.out).mono ?_); (case side1 => repeat (first | exact (Kd.R_reads' HO_3.out).2.2 | (with_reducible refine Kd.C_alloc ?_ _) | (with_reducible refine Kd.C_drewN ?_ _) | (with_reducible refine Kd.C_drew ?_))); (case side2 => exact (Kd.R_reads' HO_3.out).2.1); (try clear A20); rintro e w27 ⟨v325, rfl, ho0, hb⟩; have HO326 := Aside0.mk (Kd.R_lower (Kd.R_new' (Kd.R_new' ho0 (Kd.R_lt (by (with_reducible repeat (first | apply Kd.R_alloc | apply Kd.R_drewN | apply Kd.R_drew)); exact HO_3.out))) (Kd.R_lt (by (with_reducible repeat (first | apply Kd.R_alloc | apply Kd.R_drewN | apply Kd.R_drew)); exact HO_4.out))) (below_size (by repeat (first | (with_reducible first | exact HB.out | apply below_alloc | apply pw_below_drewN | apply below_drew1) | exact HB.out)))); replace HO_3 := Aside0.mk (Kd.R_elder' (by (with_reducible repeat (first | apply Kd.R_alloc | apply Kd.R_drewN | apply Kd.R_drew)); exact HO_3.out) (Kd.R_base ho0) hb); replace HO_4 := Aside0.mk (Kd.R_elder' (by (with_reducible repeat (first | apply Kd.R_alloc | apply Kd.R_drewN | apply Kd.R_drew)); exact HO_4.out) (Kd.R_base ho0) hb); replace HB := Aside0.mk (below_step (by repeat (first | (with_reducible first | exact HB.out | apply below_alloc | apply pw_below_drewN | apply below_drew1) | exact HB.out)) hb); (try clear hb); (try clear hb2); (try clear hk); (try clear hi); (try clear ho0); obtain ⟨Ao28, co28, eo28⟩ := Kd.R_slice HO326.out; subst eo28) | (go_at_call 45; (with_reducible refine (watchmanref09_Same.calls k2 _ _ t324 _ _ t314 true _ ?side1 ?side2 ?side3 ?side4 A21.out).mono ?_); (case side1 => repeat (first | exact (Kd.R_reads' HO326.out).2.2 | (with_reducible refine Kd.C_alloc ?_ _) | (with_reducible refine Kd.C_drewN ?_ _) | (with_reducible refine Kd.C_drew ?_))); (case side2 => exact (Kd.R_reads' HO326.out).2.1); (case side3 => repeat (first | exact (Kd.R_reads' HO_3.out).2.2 | (with_reducible refine Kd.C_alloc ?_ _) | (with_reducible refine Kd.C_drewN ?_ _) | (with_reducible refine Kd.C_drew ?_))); (case side4 => exact (Kd.R_reads' HO_3.out).2.1); (try clear A21); rintro e w' ⟨rfl, ⟨nd, rfl⟩⟩; (try first | exact ⟨rfl, _, World.drewN_drewN _ _ _⟩ | exact ⟨rfl, _, Eq.trans (World.drewN_drewN _ _ _) (congrArg (World.drewN _) (Nat.add_assoc _ _ _))⟩); obtain ⟨Ao29, co29, eo29⟩ := Kd.R_slice HO_4.out; subst eo29) | (go_at_call 47; (with_reducible refine (due_Order.calls k2 _ _ x4_1 t328 _ ?side1 ?side2 A23.out).mono ?_); (case side1 => repeat (first | exact (Kd.R_reads' HO_4.out).2.2 | (with_reducible refine Kd.C_alloc ?_ _) | (with_reducible refine Kd.C_drewN ?_ _) | (with_reducible refine Kd.C_drew ?_))); (case side2 => exact (Kd.R_reads' HO_4.out).2.1); (try clear A23); rintro e w30 ⟨v329, rfl, ho0, hb⟩; have HO330 := Aside0.mk (Kd.R_lower (Kd.R_new' (Kd.R_new' (Kd.R_new' ho0 (Kd.R_lt (by (with_reducible repeat (first | apply Kd.R_alloc | apply Kd.R_drewN | apply Kd.R_drew)); exact HO_3.out))) (Kd.R_lt (by (with_reducible repeat (first | apply Kd.R_alloc | apply Kd.R_drewN | apply Kd.R_drew)); exact HO_4.out))) (Kd.R_lt (by (with_reducible repeat (first | apply Kd.R_alloc | apply Kd.R_drewN | apply Kd.R_drew)); exact HO326.out))) (below_size (by repeat (first | (with_reducible first | exact HB.out | apply below_alloc | apply pw_below_drewN | apply below_drew1) | exact HB.out)))); replace HO_3 := Aside0.mk (Kd.R_elder' (by (with_reducible repeat (first | apply Kd.R_alloc | apply Kd.R_drewN | apply Kd.R_drew)); exact HO_3.out) (Kd.R_base ho0) hb); replace HO_4 := Aside0.mk (Kd.R_elder' (by (with_reducible repeat (first | apply Kd.R_alloc | apply Kd.R_drewN | apply Kd.R_drew)); exact HO_4.out) (Kd.R_base ho0) hb); replace HO326 := Aside0.mk (Kd.R_elder' (by (with_reducible repeat (first | apply Kd.R_alloc | apply Kd.R_drewN | apply Kd.R_drew)); exact HO326.out) (Kd.R_base ho0) hb); replace HB := Aside0.mk (below_step (by repeat (first | (with_reducible first | exact HB.out | apply below_alloc | apply pw_below_drewN | apply below_drew1) | exact HB.out)) hb); (try clear hb); (try clear hb2); (try clear hk); (try clear hi); (try clear ho0); obtain ⟨Ao31, co31, eo31⟩ := Kd.R_slice HO330.out; subst eo31) | (go_at_call 45; (with_reducible refine (watchmanref09_Same.calls k2 _ _ t328 _ _ t314 t331 _ ?side1 ?side2 ?side3 ?side4 A24.out).mono ?_); (case side1 => repeat (first | exact (Kd.R_reads' HO330.out).2.2 | (with_reducible refine Kd.C_alloc ?_ _) | (with_reducible refine Kd.C_drewN ?_ _) | (with_reducible refine Kd.C_drew ?_))); (case side2 => exact (Kd.R_reads' HO330.out).2.1); (case side3 => repeat (first | exact (Kd.R_reads' HO_3.out).2.2 | (with_reducible refine Kd.C_alloc ?_ _) | (with_reducible refine Kd.C_drewN ?_ _) | (with_reducible refine Kd.C_drew ?_))); (case side4 => exact (Kd.R_reads' HO_3.out).2.1); (try clear A24); rintro e w' ⟨rfl, ⟨nd, rfl⟩⟩; (try first | exact ⟨rfl, _, World.drewN_drewN _ _ _⟩ | exact ⟨rfl, _, Eq.trans (World.drewN_drewN _ _ _) (congrArg (World.drewN _) (Nat.add_assoc _ _ _))⟩))); try go_wp2_with (first | (go_at_call 46; (with_reducible refine (watchmanlaw09_coming.calls  true _ A17.out).mono ?_); (try clear A17); rintro e w26 ⟨rfl, hb⟩; replace HO_3 := Aside0.mk (Kd.R_below (by (with_reducible repeat (first | apply Kd.R_alloc | apply Kd.R_drewN | apply Kd.R_drew)); exact HO_3.out) hb); replace HO_4 := Aside0.mk (Kd.R_below (by (with_reducible repeat (first | apply Kd.R_alloc | apply Kd.R_drewN | apply Kd.R_drew)); exact HO_4.out) hb); replace HB := Aside0.mk (below_step (by repeat (first | (with_reducible first | exact HB.out | apply below_alloc | apply pw_below_drewN | apply below_drew1) | exact HB.out)) hb); (try clear hb); (try clear hb2); (try clear hk); (try clear hi)) | (go_at_call 47; (with_reducible refine (due_Order.calls k2 _ _ t314 t324 _ ?side1 ?side2 A20.out).mono ?_); (case side1 => repeat (first | exact (Kd.R_reads' HO_3.out).2.2 | (with_reducible refine Kd.C_alloc ?_ _) | (with_reducible refine Kd.C_drewN ?_ _) | (with_reducible refine Kd.C_drew ?_))); (case side2 => exact (Kd.R_reads' HO_3.out).2.1); (try clear A20); rintro e w27 ⟨v325, rfl, ho0, hb⟩; have HO326 := Aside0.mk (Kd.R_lower (Kd.R_new' (Kd.R_new' ho0 (Kd.R_lt (by (with_reducible repeat (first | apply Kd.R_alloc | apply Kd.R_drewN | apply Kd.R_drew)); exact HO_3.out))) (Kd.R_lt (by (with_reducible repeat (first | apply Kd.R_alloc | apply Kd.R_drewN | apply Kd.R_drew)); exact HO_4.out))) (below_size (by repeat (first | (with_reducible first | exact HB.out | apply below_alloc | apply pw_below_drewN | apply below_drew1) | exact HB.out)))); replace HO_3 := Aside0.mk (Kd.R_elder' (by (with_reducible repeat (first | apply Kd.R_alloc | apply Kd.R_drewN | apply Kd.R_drew)); exact HO_3.out) (Kd.R_base ho0) hb); replace HO_4 := Aside0.mk (Kd.R_elder' (by (with_reducible repeat (first | apply Kd.R_alloc | apply Kd.R_drewN | apply Kd.R_drew)); exact HO_4.out) (Kd.R_base ho0) hb); replace HB := Aside0.mk (below_step (by repeat (first | (with_reducible first | exact HB.out | apply below_alloc | apply pw_below_drewN | apply below_drew1) | exact HB.out)) hb); (try clear hb); (try clear hb2); (try clear hk); (try clear hi); (try clear ho0); obtain ⟨Ao28, co28, eo28⟩ := Kd.R_slice HO326.out; subst eo28) | (go_at_call 45; (with_reducible refine (watchmanref09_Same.calls k2 _ _ t324 _ _ t314 true _ ?side1 ?side2 ?side3 ?side4 A21.out).mono ?_); (case side1 => repeat (first | exact (Kd.R_reads' HO326.out).2.2 | (with_reducible refine Kd.C_alloc ?_ _) | (with_reducible refine Kd.C_drewN ?_ _) | (with_reducible refine Kd.C_drew ?_))); (case side2 => exact (Kd.R_reads' HO326.out).2.1); (case side3 => repeat (first | exact (Kd.R_reads' HO_3.out).2.2 | (with_reducible refine Kd.C_alloc ?_ _) | (with_reducible refine Kd.C_drewN ?_ _) | (with_reducible refine Kd.C_drew ?_))); (case side4 => exact (Kd.R_reads' HO_3.out).2.1); (try clear A21); rintro e w' ⟨rfl, ⟨nd, rfl⟩⟩; (try first | exact ⟨rfl, _, World.drewN_drewN _ _ _⟩ | exact ⟨rfl, _, Eq.trans (World.drewN_drewN _ _ _) (congrArg (World.drewN _) (Nat.add_assoc _ _ _))⟩); obtain ⟨Ao29, co29, eo29⟩ := Kd.R_slice HO_4.out; subst eo29) | (go_at_call 47; (with_reducible refine (due_Order.calls k2 _ _ x4_1 t328 _ ?side1 ?side2 A23.out).mono ?_); (case side1 => repeat (first | exact (Kd.R_reads' HO_4.out).2.2 | (with_reducible refine Kd.C_alloc ?_ _) | (with_reducible refine Kd.C_drewN ?_ _) | (with_reducible refine Kd.C_drew ?_))); (case side2 => exact (Kd.R_reads' HO_4.out).2.1); (try clear A23); rintro e w30 ⟨v329, rfl, ho0, hb⟩; have HO330 := Aside0.mk (Kd.R_lower (Kd.R_new' (Kd.R_new' (Kd.R_new' ho0 (Kd.R_lt (by (with_reducible repeat (first | apply Kd.R_alloc | apply Kd.R_drewN | apply Kd.R_drew)); exact HO_3.out))) (Kd.R_lt (by (with_reducible repeat (first | apply Kd.R_alloc | apply Kd.R_drewN | apply Kd.R_drew)); exact HO_4.out))) (Kd.R_lt (by (with_reducible repeat (first | apply Kd.R_alloc | apply Kd.R_drewN | apply Kd.R_drew)); exact HO326.out))) (below_size (by repeat (first | (with_reducible first | exact HB.out | apply below_alloc | apply pw_below_drewN | apply below_drew1) | exact HB.out)))); replace HO_3 := Aside0.mk (Kd.R_elder' (by (with_reducible repeat (first | apply Kd.R_alloc | apply Kd.R_drewN | apply Kd.R_drew)); exact HO_3.out) (Kd.R_base ho0) hb); replace HO_4 := Aside0.mk (Kd.R_elder' (by (with_reducible repeat (first | apply Kd.R_alloc | apply Kd.R_drewN | apply Kd.R_drew)); exact HO_4.out) (Kd.R_base ho0) hb); replace HO326 := Aside0.mk (Kd.R_elder' (by (with_reducible repeat (first | apply Kd.R_alloc | apply Kd.R_drewN | apply Kd.R_drew)); exact HO326.out) (Kd.R_base ho0) hb); replace HB := Aside0.mk (below_step (by repeat (first | (with_reducible first | exact HB.out | apply below_alloc | apply pw_below_drewN | apply below_drew1) | exact HB.out)) hb); (try clear hb); (try clear hb2); (try clear hk); (try clear hi); (try clear ho0); obtain ⟨Ao31, co31, eo31⟩ := Kd.R_slice HO330.out; subst eo31) | (go_at_call 45; (with_reducible refine (watchmanref09_Same.calls k2 _ _ t328 _ _ t314 t331 _ ?side1 ?side2 ?side3 ?side4 A24.out).mono ?_); (case side1 => repeat (first | exact (Kd.R_reads' HO330.out).2.2 | (with_reducible refine Kd.C_alloc ?_ _) | (with_reducible refine Kd.C_drewN ?_ _) | (with_reducible refine Kd.C_drew ?_))); (case side2 => exact (Kd.R_reads' HO330.out).2.1); (case side3 => repeat (first | exact (Kd.R_reads' HO_3.out).2.2 | (with_reducible refine Kd.C_alloc ?_ _) | (with_reducible refine Kd.C_drewN ?_ _) | (with_reducible refine Kd.C_drew ?_))); (case side4 => exact (Kd.R_reads' HO_3.out).2.1); (try clear A24); rintro e w' ⟨rfl, ⟨nd, rfl⟩⟩; (try first | exact ⟨rfl, _, World.drewN_drewN _ _ _⟩ | exact ⟨rfl, _, Eq.trans (World.drewN_drewN _ _ _) (congrArg (World.drewN _) (Nat.add_assoc _ _ _))⟩))))
           go_ret
           exact ⟨by first | rfl | (simp [errW_none, errW_some] <;> rfl) | (simp [*, errW_none, errW_some] <;> rfl), by repeat (first | (with_reducible first | exact HB.out | apply below_alloc | apply pw_below_drewN | apply below_drew1) | exact HB.out)⟩
          ·replace c22 := Bool.eq_false_iff.mpr c22
           subst c22
           rw [if_neg (show ¬ (false = true) by decide)] at H; try dsimp only at H
           exact absurd H (by simp)
         ·rw [if_neg c19] at H
          exact absurd H (by simp)
        ·replace c18 := Bool.eq_false_iff.mpr c18
         subst c18
         rw [if_neg (show ¬ (false = true) by decide)] at H; try dsimp only at H
         exact absurd H (by simp)

end Go.Proofs.Ytcfpbmdndapeaaa.F
