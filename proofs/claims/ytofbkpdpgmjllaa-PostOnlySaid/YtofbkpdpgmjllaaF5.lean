-- Written by a program of this session (xprint.py), out of the translation and of contracts proved by hand.
import Derived.Test.YtofbkpdpgmjllaaF0
import Derived.Test.YtofbkpdpgmjllaaF3
import Derived.Test.YtofbkpdpgmjllaaF4
namespace Go.Proofs.Ytofbkpdpgmjllaa.F
open Go.RowKit Go.Proofs.YtofbkpdpgmjllaaW.PrintWords Go.Proofs.YtofbkpdpgmjllaaW.PrintLast Go.Proofs.YtofbkpdpgmjllaaW.PrintMore
attribute [local go_sem] max2_int min2_int max_two min_two max_three min_three max_four min_four   -- for this text's walks alone
set_option linter.unusedVariables false
set_option linter.unusedSimpArgs false

/-! ### api_Letter_42: function 42 -/
def ix_Letter (p : S35 → Bool) (l : List S35) : Int := match l.findIdx? p with | some i => (i : Int) | none => -1
theorem ix_Letter_hit (p : S35 → Bool) (l : List S35) (i : Nat) (hi : i < l.length) (h : p (rd_T35 l (i : Int)) = true) (hn : ∀ j, j < i → p (rd_T35 l (j : Int)) = false) : ix_Letter p l = (i : Int) := by
  have e : l.findIdx? p = some i := by
    rw [List.findIdx?_eq_some_iff_getElem]
    refine ⟨hi, ?_, fun j hj => ?_⟩
    · simpa [rd_T35, List.getD_eq_getElem?_getD, List.getElem?_eq_getElem hi] using h
    · have := hn j hj
      simpa [rd_T35, List.getD_eq_getElem?_getD, List.getElem?_eq_getElem (show j < l.length by omega)] using this
  unfold ix_Letter; rw [e]
theorem ix_Letter_miss (p : S35 → Bool) (l : List S35) (hn : ∀ j, j < l.length → p (rd_T35 l (j : Int)) = false) : ix_Letter p l = -1 := by
  have e : l.findIdx? p = none := by
    rw [List.findIdx?_eq_none_iff]
    intro x hx
    obtain ⟨j, hj, rfl⟩ := List.mem_iff_getElem.1 hx
    have := hn j hj
    simpa [rd_T35, List.getD_eq_getElem?_getD, List.getElem?_eq_getElem hj] using this
  unfold ix_Letter; rw [e]
set_option maxHeartbeats 8000000 in
set_option maxRecDepth 100000 in
theorem ixfunc_Letter.calls (p : S35 → Bool) (g : Nat) (lb : Array Value) (eg : ∀ args w, (callFunc g args).run Try.prog w = .ok (.enter g args) w) (A0 : Option Addr) (c0 : Nat) (l0 : List S35) (w : World)
    (hp : ∀ (W : World) (x : S35), Below w.heap.size w W → Calls Try.prog g (#[.agg #[.int .i64 x.f0, .int .i64 x.f1, .int .i64 x.f2, .string x.f3]] ++ lb) W fun e w' => e = .returned (.bool (p x)) ∧ Below w.heap.size w w')
    (hr0 : Kd.C k35 w A0 l0.length l0) :
    Calls Try.prog 42 #[.slice A0 l0.length c0, .func (.func g) #[] lb] w fun e w' => e = .returned (.int .i64 (ix_Letter p l0)) ∧ Below w.heap.size w w' := by
  have hu_ := Try.underlying35
  have hbig := hr0.2.1
  have HR0 := Aside0.mk hr0
  have HP := Aside0.mk hp
  clear hr0 hp
  go_enter Try.func42, Try.ntmps42
  go_wp2
  go_loopg [5, 8] l0.length (fun gg _ s8 wr => ∃ kk : Nat, kk ≤ l0.length ∧ l0.length - kk ≤ gg ∧ s8 = .int .i64 kk ∧ Aside0 (Below w.heap.size w wr) ∧ Aside0 (∀ j, j < kk → p (rd_T35 l0 (j : Int)) = false))
  case atStart => exact ⟨0, Nat.zero_le _, by omega, rfl, ⟨Below.refl _ w⟩, ⟨fun j hj => absurd hj (Nat.not_lt_zero _)⟩⟩
  case round =>
    obtain ⟨kk, hkk, hg, rfl, BW, A⟩ := hrel
    by_cases hlt : kk < l0.length
    · have hltz : (kk : Int) < (l0.length : Int) := by omega
      obtain ⟨ad, e0, hx0, hx1, hx2, hx3⟩ := at_T35 (Kd.C_below HR0.out BW.out) (kk : Int) (by omega) hltz
      cases e0
      simp only [Int.toNat_natCast] at hx0 hx1 hx2 hx3
      have hcall := HP.out wr (rd_T35 l0 (kk : Int))  BW.out
      generalize hy_ : rd_T35 l0 (kk : Int) = y_ at hcall hx0 hx1 hx2 hx3
      have Y := Aside0.mk hy_
      clear hy_
      cases hq : p y_ with
      | true =>
        rw [hq] at hcall
        have Q := Aside0.mk hq
        clear hq
        go_wp2_with (go_at_fn g; refine hcall.mono ?_; rintro e w' ⟨rfl, hb'⟩)
        go_ret
        exact ⟨by rw [ix_Letter_hit p l0 kk hlt (by rw [Y.out]; exact Q.out) A.out]; rfl, hb'⟩
      | false =>
        rw [hq] at hcall
        have Q := Aside0.mk hq
        clear hq
        go_wp2_with (go_at_fn g; refine hcall.mono ?_; rintro e w' ⟨rfl, hb'⟩)
        go_roundg (l0.length - (kk + 1))
        case measure => omega
        case rel =>
          refine ⟨kk + 1, by omega, by omega, by go_num, ⟨hb'⟩, ⟨fun j hj => ?_⟩⟩
          by_cases e : j = kk
          · subst e; rw [Y.out]; exact Q.out
          · exact A.out j (by omega)
    · have hltz : ¬ (kk : Int) < (l0.length : Int) := by omega
      go_wp2
      go_ret
      exact ⟨by rw [ix_Letter_miss p l0 (fun j hj => A.out j (by omega))]; rfl, BW.out⟩

/-! ### post_find: function 34 -/
def post_find.f (k : Nat) (a0_0 : Int) (l0_1 : List S35) (a1 : Int) : Option (Int × Int) :=
  (post_Is.f k a0_0 l0_1).bind fun b => if b = true then (if ix_Letter (fun x => decide (x.f0 = a1)) l0_1 < 0 then some (0, 80) else some (ix_Letter (fun x => decide (x.f0 = a1)) l0_1, 0)) else some (0, 1)
theorem post_find.mono : ∀ a0 a1 a2 k, LeO (post_find.f k a0 a1 a2) (post_find.f (k + 1) a0 a1 a2) := by
  intro a0 a1 a2 k
  unfold post_find.f
  exact LeO.bind (post_Is.mono a0 a1 k) (fun b => LeO.refl _)
theorem post_find.one (id : Int) (B : Nat) (w : World) (hB : B < w.heap.size) (hcell : w.cell? ⟨B, 0, none⟩ = some (.int .i64 id)) (W : World) (x : S35) (hb : Below w.heap.size w W) :
    Calls Try.prog 43 (#[.agg #[.int .i64 x.f0, .int .i64 x.f1, .int .i64 x.f2, .string x.f3]] ++ #[.pointer (some ⟨B, 0, none⟩)]) W fun e w' => e = .returned (.bool (decide (x.f0 = id))) ∧ Below w.heap.size w w' := by
  have hc : W.cell? ⟨B, 0, none⟩ = some (.int .i64 id) := (hb.cell (p := ⟨B, 0, none⟩) hB).trans hcell
  have hBW : B < W.heap.size := Nat.lt_of_lt_of_le hB hb.size
  have hne : B ≠ W.heap.size := by omega
  obtain ⟨x0, x1, x2, x3⟩ := x
  show Calls Try.prog 43 #[.agg #[.int .i64 x0, .int .i64 x1, .int .i64 x2, .string x3], .pointer (some ⟨B, 0, none⟩)] W _
  clear hcell
  go_enter Try.func43, Try.ntmps43
  go_wp2
  all_goals (go_ret; exact ⟨by first | (simp_all; done) | (simp_all; rfl), hb.alloc hb.size _⟩)
set_option maxHeartbeats 8000000 in
set_option maxRecDepth 100000 in
theorem post_find.calls (k : Nat) (a0_0 : Int) (A0_1 : Option Addr) (c0_1 : Nat) (l0_1 : List S35) (a1 : Int) (r1 : Int) (r2 : Int) (w : World) (hr0_1 : Kd.C k35 w A0_1 l0_1.length l0_1) (hc0_1 : l0_1.length ≤ c0_1) (h : post_find.f k a0_0 l0_1 a1 = some (r1, r2)) :
    Calls Try.prog 34 #[.agg #[.int .i64 a0_0, .slice A0_1 l0_1.length c0_1], .int .i64 a1] w fun e w' => e = .returned (.tuple #[.int .i64 r1, .int .i64 r2]) ∧ Below w.heap.size w w' := by
  have hu24 := Try.underlying24
  have hu35 := Try.underlying35
  have eg : ∀ args w, (callFunc 43 args).run Try.prog w = .ok (.enter 43 args) w := enters_of Try.func43 (by kernel_rfl) rfl
  have HR := Aside0.mk hr0_1
  have HC := Aside0.mk hc0_1
  clear hr0_1 hc0_1
  have HB := Aside0.mk (Below.refl w.heap.size w)
  have hh := Option.bind_eq_some_iff.mp h
  clear h
  obtain ⟨b, hb0, h⟩ := hh
  have IS := Aside0.mk hb0
  clear hb0
  cases b with
  | false =>
    rw [if_neg (by decide)] at h
    simp only [Option.some.injEq, Prod.mk.injEq] at h
    obtain ⟨rfl, rfl⟩ := h
    go_enter Try.func34, Try.ntmps34
    go_wp2_with (first | ((with_reducible refine gate_dst (N := 2) rfl ?_); refine box_event ?hg (N := 2) ?hd (cs := #[.int .i64 a0_0, .slice A0_1 l0_1.length c0_1]) (t := 24) ?hr ?_; (case hd => rfl); (case hg => rfl); (case hr => first | (go_simp; done) | (go_simp; rfl)); intro gbB hg w3 hbox hb; have n0_ := Aside0.mk (below_step HB.out hb); have n1_ := Aside0.mk hbox; have n2_ := Aside0.mk ((by rw [hg]; exact (below_size HB.out)) : w.heap.size ≤ gbB); clear HB; have HB := n0_; have BKB := n1_; have GEB := n2_; clear n0_ n1_ n2_; clear hb hbox hg) | ((with_reducible refine gate_dst (N := 3) rfl ?_); refine box_event ?hg (N := 3) ?hd (cs := #[.int .i64 a1]) (t := 3) ?hr ?_; (case hd => rfl); (case hg => rfl); (case hr => first | (go_simp; done) | (go_simp; rfl)); intro gbN hg w4 hbox hb; have n0_ := Aside0.mk (below_step HB.out hb); have n1_ := Aside0.mk hbox; have n2_ := Aside0.mk ((by rw [hg]; exact (below_size HB.out)) : w.heap.size ≤ gbN); have m0_ := Aside0.mk (blk_below BKB.out hb); clear HB; clear BKB; have HB := n0_; have BKN := n1_; have GEN := n2_; have BKB := m0_; clear n0_ n1_ n2_ m0_; clear hb hbox hg; have hczB_0 : w4.cell? ⟨gbB, 0, none⟩ = some (.int .i64 a0_0) := (blk_cell BKB.out 0).trans rfl; have hczB_1 : w4.cell? ⟨gbB, 1, none⟩ = some (.slice A0_1 l0_1.length c0_1) := (blk_cell BKB.out 1).trans rfl) | (go_at_call 25; refine (post_Is.calls k a0_0 A0_1 c0_1 l0_1 _ w4 (Kd.C_below HR.out HB.out) HC.out IS.out).mono ?_; rintro e w5 ⟨rfl, hb⟩; (try clear hczB_0 hczB_1); have n0_ := Aside0.mk (below_step HB.out hb); have m0_ := Aside0.mk (blk_below BKB.out hb); have m1_ := Aside0.mk (blk_below BKN.out hb); clear HB BKB BKN; have HB := n0_; have BKB := m0_; have BKN := m1_; clear n0_ m0_ m1_ hb; have hczB_0 : w5.cell? ⟨gbB, 0, none⟩ = some (.int .i64 a0_0) := (blk_cell BKB.out 0).trans rfl; have hczB_1 : w5.cell? ⟨gbB, 1, none⟩ = some (.slice A0_1 l0_1.length c0_1) := (blk_cell BKB.out 1).trans rfl; have HCON := Aside0.mk (ixfunc_Letter.calls (fun x => decide (x.f0 = a1)) 43 #[.pointer (some ⟨gbN, 0, none⟩)] eg A0_1 c0_1 l0_1 w5 (fun W x hb => post_find.one a1 gbN w5 (blk_lt BKN.out) ((blk_cell BKN.out 0).trans rfl) W x hb) (Kd.C_below HR.out HB.out))))
    go_ret2
    exact ⟨rfl, HB.out⟩
  | true =>
    rw [if_pos rfl] at h
    generalize hq : ix_Letter (fun x => decide (x.f0 = a1)) l0_1 = q at h
    have Q := Aside0.mk hq
    clear hq
    by_cases c : q < 0
    · rw [if_pos c] at h
      have c0 : decide (q < 0) = true := decide_eq_true c
      simp only [Option.some.injEq, Prod.mk.injEq] at h
      obtain ⟨rfl, rfl⟩ := h
      clear c
      go_enter Try.func34, Try.ntmps34
      go_wp2_with (first | ((with_reducible refine gate_dst (N := 2) rfl ?_); refine box_event ?hg (N := 2) ?hd (cs := #[.int .i64 a0_0, .slice A0_1 l0_1.length c0_1]) (t := 24) ?hr ?_; (case hd => rfl); (case hg => rfl); (case hr => first | (go_simp; done) | (go_simp; rfl)); intro gbB hg w3 hbox hb; have n0_ := Aside0.mk (below_step HB.out hb); have n1_ := Aside0.mk hbox; have n2_ := Aside0.mk ((by rw [hg]; exact (below_size HB.out)) : w.heap.size ≤ gbB); clear HB; have HB := n0_; have BKB := n1_; have GEB := n2_; clear n0_ n1_ n2_; clear hb hbox hg) | ((with_reducible refine gate_dst (N := 3) rfl ?_); refine box_event ?hg (N := 3) ?hd (cs := #[.int .i64 a1]) (t := 3) ?hr ?_; (case hd => rfl); (case hg => rfl); (case hr => first | (go_simp; done) | (go_simp; rfl)); intro gbN hg w4 hbox hb; have n0_ := Aside0.mk (below_step HB.out hb); have n1_ := Aside0.mk hbox; have n2_ := Aside0.mk ((by rw [hg]; exact (below_size HB.out)) : w.heap.size ≤ gbN); have m0_ := Aside0.mk (blk_below BKB.out hb); clear HB; clear BKB; have HB := n0_; have BKN := n1_; have GEN := n2_; have BKB := m0_; clear n0_ n1_ n2_ m0_; clear hb hbox hg; have hczB_0 : w4.cell? ⟨gbB, 0, none⟩ = some (.int .i64 a0_0) := (blk_cell BKB.out 0).trans rfl; have hczB_1 : w4.cell? ⟨gbB, 1, none⟩ = some (.slice A0_1 l0_1.length c0_1) := (blk_cell BKB.out 1).trans rfl) | (go_at_call 25; refine (post_Is.calls k a0_0 A0_1 c0_1 l0_1 _ w4 (Kd.C_below HR.out HB.out) HC.out IS.out).mono ?_; rintro e w5 ⟨rfl, hb⟩; (try clear hczB_0 hczB_1); have n0_ := Aside0.mk (below_step HB.out hb); have m0_ := Aside0.mk (blk_below BKB.out hb); have m1_ := Aside0.mk (blk_below BKN.out hb); clear HB BKB BKN; have HB := n0_; have BKB := m0_; have BKN := m1_; clear n0_ m0_ m1_ hb; have hczB_0 : w5.cell? ⟨gbB, 0, none⟩ = some (.int .i64 a0_0) := (blk_cell BKB.out 0).trans rfl; have hczB_1 : w5.cell? ⟨gbB, 1, none⟩ = some (.slice A0_1 l0_1.length c0_1) := (blk_cell BKB.out 1).trans rfl; have HCON := Aside0.mk (ixfunc_Letter.calls (fun x => decide (x.f0 = a1)) 43 #[.pointer (some ⟨gbN, 0, none⟩)] eg A0_1 c0_1 l0_1 w5 (fun W x hb => post_find.one a1 gbN w5 (blk_lt BKN.out) ((blk_cell BKN.out 0).trans rfl) W x hb) (Kd.C_below HR.out HB.out))) | (go_at_call 42; refine HCON.out.mono ?_; rintro e w6 ⟨rfl, hb⟩; rw [Q.out]; have n0_ := Aside0.mk (below_step HB.out hb); clear HCON HB; have HB := n0_; clear n0_ hb))
      go_ret2
      exact ⟨rfl, HB.out⟩
    · rw [if_neg c] at h
      have c0 : decide (q < 0) = false := decide_eq_false c
      simp only [Option.some.injEq, Prod.mk.injEq] at h
      obtain ⟨rfl, rfl⟩ := h
      clear c
      go_enter Try.func34, Try.ntmps34
      go_wp2_with (first | ((with_reducible refine gate_dst (N := 2) rfl ?_); refine box_event ?hg (N := 2) ?hd (cs := #[.int .i64 a0_0, .slice A0_1 l0_1.length c0_1]) (t := 24) ?hr ?_; (case hd => rfl); (case hg => rfl); (case hr => first | (go_simp; done) | (go_simp; rfl)); intro gbB hg w3 hbox hb; have n0_ := Aside0.mk (below_step HB.out hb); have n1_ := Aside0.mk hbox; have n2_ := Aside0.mk ((by rw [hg]; exact (below_size HB.out)) : w.heap.size ≤ gbB); clear HB; have HB := n0_; have BKB := n1_; have GEB := n2_; clear n0_ n1_ n2_; clear hb hbox hg) | ((with_reducible refine gate_dst (N := 3) rfl ?_); refine box_event ?hg (N := 3) ?hd (cs := #[.int .i64 a1]) (t := 3) ?hr ?_; (case hd => rfl); (case hg => rfl); (case hr => first | (go_simp; done) | (go_simp; rfl)); intro gbN hg w4 hbox hb; have n0_ := Aside0.mk (below_step HB.out hb); have n1_ := Aside0.mk hbox; have n2_ := Aside0.mk ((by rw [hg]; exact (below_size HB.out)) : w.heap.size ≤ gbN); have m0_ := Aside0.mk (blk_below BKB.out hb); clear HB; clear BKB; have HB := n0_; have BKN := n1_; have GEN := n2_; have BKB := m0_; clear n0_ n1_ n2_ m0_; clear hb hbox hg; have hczB_0 : w4.cell? ⟨gbB, 0, none⟩ = some (.int .i64 a0_0) := (blk_cell BKB.out 0).trans rfl; have hczB_1 : w4.cell? ⟨gbB, 1, none⟩ = some (.slice A0_1 l0_1.length c0_1) := (blk_cell BKB.out 1).trans rfl) | (go_at_call 25; refine (post_Is.calls k a0_0 A0_1 c0_1 l0_1 _ w4 (Kd.C_below HR.out HB.out) HC.out IS.out).mono ?_; rintro e w5 ⟨rfl, hb⟩; (try clear hczB_0 hczB_1); have n0_ := Aside0.mk (below_step HB.out hb); have m0_ := Aside0.mk (blk_below BKB.out hb); have m1_ := Aside0.mk (blk_below BKN.out hb); clear HB BKB BKN; have HB := n0_; have BKB := m0_; have BKN := m1_; clear n0_ m0_ m1_ hb; have hczB_0 : w5.cell? ⟨gbB, 0, none⟩ = some (.int .i64 a0_0) := (blk_cell BKB.out 0).trans rfl; have hczB_1 : w5.cell? ⟨gbB, 1, none⟩ = some (.slice A0_1 l0_1.length c0_1) := (blk_cell BKB.out 1).trans rfl; have HCON := Aside0.mk (ixfunc_Letter.calls (fun x => decide (x.f0 = a1)) 43 #[.pointer (some ⟨gbN, 0, none⟩)] eg A0_1 c0_1 l0_1 w5 (fun W x hb => post_find.one a1 gbN w5 (blk_lt BKN.out) ((blk_cell BKN.out 0).trans rfl) W x hb) (Kd.C_below HR.out HB.out))) | (go_at_call 42; refine HCON.out.mono ?_; rintro e w6 ⟨rfl, hb⟩; rw [Q.out]; have n0_ := Aside0.mk (below_step HB.out hb); clear HCON HB; have HB := n0_; clear n0_ hb))
      go_ret2
      exact ⟨rfl, HB.out⟩

/-! ### api_Letter_35: function 35 -/
theorem R_tailD {α : Type} {d : Kd α} {e : Nat} {W : World} {base : Nat} {ok : Nat → Prop} {g m c : Nat} {xs : List α} (h : d.R e W base ok (.slice (some ⟨g, 0, none⟩) m c) xs) (news : List Value) (hn : m * d.sz + news.length ≤ c * d.sz) :
    (∀ j, j < news.length → (W.cell? ⟨g, m * d.sz + j, none⟩).isSome = true) ∧ (∀ j, W.frozen? ⟨g, j, none⟩ = false) ∧ d.R e (W.setCells g (m * d.sz) news) base ok (.slice (some ⟨g, 0, none⟩) m c) xs ∧ W.grownBy (W.setCells g (m * d.sz) news) (some g) := by
  obtain ⟨hok, inner, hown, hr⟩ := h
  rcases hown.2 with ⟨hv, _⟩ | ⟨g', cap', cur, hv, hb, hh, hnc, hcm, hcs, htake⟩
  · cases hv
  injection hv with ha hl hc
  injection ha with ha
  injection ha with hg
  subst hg; subst hc; subst hl
  have hfit : xs.length * d.sz + news.length ≤ cur.size := by rw [hcs]; exact hn
  obtain ⟨cur', h3, h4, h5⟩ := setCells_row news (xs.length * d.sz) W cur hh hfit
  obtain ⟨s1, s2, s3, s4⟩ := setCells_same g news (xs.length * d.sz) W
  have hfar : ∀ k', k' ≠ g → (W.setCells g (xs.length * d.sz) news).heap[k']? = W.heap[k']? := fun k' hk' => setCells_far news _ k' hk'
  refine ⟨fun j hj => ?_, fun j => blk_frozen hh j, ⟨hok, inner, ⟨hown.1, .inr ⟨g, c, cur', rfl, hb, h3, hnc, hcm, by rw [h4, hcs], ?_⟩⟩, hr.imp_ (fun p q hp => d.M_move (fun k' hk' => hfar k' (fun he => hk'.2 (by rw [he]; simp [Value.ownBlock]))) hp)⟩, ⟨s1, s2, s3, by rw [s4]; exact Nat.le_refl _, fun k' _ hk' => hfar k' (fun he => hk' (by rw [he]))⟩⟩
  · rw [cell_of_row W g _ cur e (0, 0) hh]
    simp; omega
  · have hle : xs.length * d.sz ≤ cur.size := Nat.le_trans (Nat.le_add_right _ _) hfit
    have hx : xs.length * d.sz ≤ (cur.toList.take (xs.length * d.sz)).length := by rw [List.length_take, Array.length_toList]; exact Nat.le_min.2 ⟨Nat.le_refl _, hle⟩
    rw [h5, List.append_assoc, List.take_append_of_le_length hx, List.take_take, Nat.min_self]
    exact htake
theorem clear_Letter (w1 w2 : World) (g o c : Nat) (hst : (storeCells ⟨g, o, none⟩ [.int .i64 0, .int .i64 0, .int .i64 0, .string ⟨#[]⟩] 0).run Try.prog w1 = .ok () w2) :
    (Builtin.clear_ #[22] 0 #[.slice (some ⟨g, o, none⟩) 1 c]).run Try.prog w1 = .ok (.tuple #[]) w2 := by
  have hz : (zeroValue 35).run Try.prog w1 = .ok (.agg #[.int .i64 0, .int .i64 0, .int .i64 0, .string ⟨#[]⟩]) w1 := by go_simp
  have e0 : (Builtin.zeroCells (Value.agg #[.int .i64 0, .int .i64 0, .int .i64 0, .string ⟨#[]⟩]).cells 1).toList = [.int .i64 0, .int .i64 0, .int .i64 0, .string ⟨#[]⟩] := by simp [Builtin.zeroCells, Value.cells, Array.range_succ]
  simp only [Builtin.clear_, List.getElem?_toArray, List.getElem?_cons_zero, Sem.run_bind, run_underlying Try.underlying22, Result.andThen_ok, hz, e0]
  rw [hst]
  rfl
set_option maxHeartbeats 8000000 in
set_option maxRecDepth 100000 in
theorem delete_Letter_R.calls {base : Nat} {ok : Nat → Prop} {w0 W : World} {g n c : Nat} {xs : List S35} (k : Int) (HO : Kd.R k35 35 W base ok (.slice (some ⟨g, 0, none⟩) n c) xs) (h0 : 0 ≤ k) (hk : k < (n : Int)) (HB : Below base w0 W) (hbase : base ≤ W.heap.size) :
    Calls Try.prog 35 #[.slice (some ⟨g, 0, none⟩) n c, .int .i64 k, .int .i64 (wrap64 (k + 1))] W fun e w1 => e = .returned (.slice (some ⟨g, 0, none⟩) (n - 1) c) ∧ Kd.R k35 35 w1 base ok (.slice (some ⟨g, 0, none⟩) (n - 1) c) (xs.eraseIdx k.toNat) ∧ Below base w0 w1 ∧ W.grownBy w1 (some g) := by
  have hu := Try.underlying35
  obtain ⟨m, rfl⟩ := Int.eq_ofNat_of_zero_le h0
  have hc := (Kd.R_reads' HO).2.1
  have hbig := (Kd.R_reads' HO).2.2.2.1
  have hlen := (Kd.R_reads' HO).1
  have hm : m < n := by omega
  have mixed : Try.prog.follows .mixedOrders = true := by kernel_rfl
  obtain ⟨j, hj⟩ : ∃ j, j = m + 1 := ⟨_, rfl⟩
  have hw : wrap64 ((m : Int) + 1) = (j : Int) := by unfold wrap64; omega
  rw [hw]
  have HO1 := Aside0.mk HO
  have HB1 := Aside0.mk HB
  have HJ := Aside0.mk hj
  have i1 : m < j := by omega
  have i2 : j ≤ n := by omega
  have i3 : m ≤ c := by omega
  have i4 : j ≤ c := by omega
  have i5 : m ≤ n := by omega
  have i6 : ¬ m = j := by omega
  obtain ⟨n1, hn1⟩ : ∃ n1, n1 = n - 1 := ⟨_, rfl⟩
  have i7 : n1 ≤ n := by omega
  have i8 : n1 ≤ c := by omega
  have i9 : ¬ c = n1 := by omega
  have i10 : n - n1 = 1 := by omega
  have HN := Aside0.mk hn1
  have HL := Aside0.mk hlen
  clear HO HB h0 hk hw hlen hj
  rw [← hn1]
  clear hn1
  go_enter Try.func35, Try.ntmps35
  go_wp2_with fail
  go_region_law_o (refine Kd.R_delete_step (w0 := w0) k35 base (by rfl) (.tmp 22) (.tmp 25) 22 35 rfl Try.underlying22 (by kernel_rfl) (g := g) (n := n) (c := c) (k := m) rfl rfl ?hA ?hm (Kd.R_drew HO1.out) ?hk (below_drew HB1.out) hbase ?_; (case hA => rw [← HJ.out]; simp only [Option.map_some, Addr.add_lit, Nat.zero_add]; rfl); (case hm => have := HJ.out; omega); (case hk => omega); intro w1 ho hb hg)
  obtain ⟨t1, t2, t3, t4⟩ := R_tailD ho [.int .i64 0, .int .i64 0, .int .i64 0, .string ⟨#[]⟩] (by show (n - 1) * 4 + 4 ≤ c * 4; omega)
  rw [← HN.out] at ho t1 t3 t4 ⊢
  have hsz : k35.sz = 4 := rfl
  rw [hsz] at t1 t3 t4
  have hst := run_storeCells_cells (P := Try.prog) g (n1 * 4) [.int .i64 0, .int .i64 0, .int .i64 0, .string ⟨#[]⟩] 0 w1 (fun j hj => t1 j hj) (fun j _ => t2 _) (by intro v hv; simp only [List.mem_cons, List.not_mem_nil, or_false] at hv; rcases hv with rfl | rfl | rfl | rfl <;> rfl)
  have hg2 := hg.trans t4
  have hb2 := hb.grown t4 (Nat.le_trans hbase (by obtain ⟨_, _, _, h_, _⟩ := hg; exact h_)) (fun k hk => by injection hk with hk; subst hk; exact Kd.R_base ho _ (by simp [Value.ownBlock]))
  have HT3 := Aside0.mk t3
  have hg3 : W.grownBy _ (some g) := ⟨hg2.os, hg2.tape, hg2.output, hg2.size, hg2.block⟩
  have HG := Aside0.mk hg3
  have HB2 := Aside0.mk hb2
  clear ho t1 t2 t3 t4 hg hg2 hg3 hb hb2
  have hcl := clear_Letter w1 _ g (n1 * 4) (c - n1) hst
  clear hst
  simp only [Nat.add_zero] at hcl
  generalize w1.setCells g (n1 * 4) [.int .i64 0, .int .i64 0, .int .i64 0, .string ⟨#[]⟩] = w2 at hcl HT3 HG HB2
  go_wp2
  all_goals go_ret
  all_goals first | exact ⟨by simp, HT3.out, HB2.out, HG.out⟩ | (have e_ : c = j := (by assumption); subst e_; exact ⟨by simp, HT3.out, HB2.out, HG.out⟩)

/-! ### post_Take: function 13 -/
def post_Take.f (k : Nat) (a0_0 : Int) (l0_1 : List (S35)) (a1 : Int) : Option (Int × (List (S35)) × Int × Int × Int × ByteArray × Int) := (post_find.f k a0_0 l0_1 a1).bind fun bt117 => (if bt117.2 = 0 then (if 0 ≤ bt117.1 then (if bt117.1 < (l0_1.length : Int) then ((api_Letter_31.f l0_1).bind fun t121 => (if bt117.1 < (t121.length : Int) then (some (a0_0, (t121.eraseIdx (bt117.1 : Int).toNat), (rd_T35 l0_1 bt117.1).f0, (rd_T35 l0_1 bt117.1).f1, (rd_T35 l0_1 bt117.1).f2, (rd_T35 l0_1 bt117.1).f3, 0)) else (none))) else (none)) else (none)) else (some (0, ([] : List (S35)), 0, 0, 0, (⟨#[]⟩ : ByteArray), bt117.2)))
theorem post_Take.mono : ∀ a0 a1 a2 k, LeO (post_Take.f k a0 a1 a2) (post_Take.f (k + 1) a0 a1 a2) := by
  intro a0 a1 a2 k
  unfold post_Take.f
  repeat' first
      | (with_reducible exact post_find.mono _ _ _ _)
      | (with_reducible exact LeO.refl _)
      | (with_reducible exact LeO.none _)
      | (with_reducible refine LeO.ite ?_ ?_)
      | (with_reducible refine LeO.bind ?_ (fun _ => ?_))
      | exact post_find.mono _ _ _ _
      | exact LeO.none _
      | refine LeO.ite ?_ ?_
      | refine LeO.bind ?_ (fun _ => ?_)
set_option maxHeartbeats 8000000 in
set_option maxRecDepth 100000 in
theorem post_Take.calls (k : Nat) (a0_0 : Int) (A0_1 : Option Addr) (c0_1 : Nat) (l0_1 : List (S35)) (a1 : Int) (r1 : Int) (r2 : List (S35)) (r3 : Int) (r4 : Int) (r5 : Int) (r6 : ByteArray) (r7 : Int) (w : World) (hr0_1 : Kd.C k35 w A0_1 l0_1.length l0_1) (hc0_1 : l0_1.length ≤ c0_1) (h : post_Take.f k a0_0 l0_1 a1 = some (r1, r2, r3, r4, r5, r6, r7)) :
    Calls Try.prog 13 #[.agg #[.int .i64 a0_0, .slice A0_1 l0_1.length c0_1], .int .i64 a1] w fun e w' => ∃ v1_ : Value, e = .returned (.tuple #[.agg #[.int .i64 r1, v1_], .agg #[.int .i64 r3, .int .i64 r4, .int .i64 r5, .string r6], .int .i64 r7]) ∧ Kd.R k35 35 w' w.heap.size (fun _ => True) v1_ r2 ∧ Below w.heap.size w w' := by
  have hu24 := Try.underlying24
  have hu35 := Try.underlying35
  have HR0_1 := Aside0.mk hr0_1
  have HC0_1 := Aside0.mk hc0_1
  clear hr0_1 hc0_1
  have HB := Aside0.mk (Below.refl w.heap.size w)
  have H : ((post_find.f k a0_0 l0_1 a1).bind fun bt117 => (if bt117.2 = 0 then (if 0 ≤ bt117.1 then (if bt117.1 < (l0_1.length : Int) then ((api_Letter_31.f l0_1).bind fun t121 => (if bt117.1 < (t121.length : Int) then (some (a0_0, (t121.eraseIdx (bt117.1 : Int).toNat), (rd_T35 l0_1 bt117.1).f0, (rd_T35 l0_1 bt117.1).f1, (rd_T35 l0_1 bt117.1).f2, (rd_T35 l0_1 bt117.1).f3, 0)) else (none))) else (none)) else (none)) else (some (0, ([] : List (S35)), 0, 0, 0, (⟨#[]⟩ : ByteArray), bt117.2)))) = some (r1, r2, r3, r4, r5, r6, r7) := h
  clear h
  replace H := Option.bind_eq_some_iff.mp H
  obtain ⟨⟨t117, t118⟩, A30, H⟩ := H
  replace H : (if t118 = 0 then (if 0 ≤ t117 then (if t117 < (l0_1.length : Int) then ((api_Letter_31.f l0_1).bind fun t121 => (if t117 < (t121.length : Int) then (some (a0_0, (t121.eraseIdx (t117 : Int).toNat), (rd_T35 l0_1 t117).f0, (rd_T35 l0_1 t117).f1, (rd_T35 l0_1 t117).f2, (rd_T35 l0_1 t117).f3, 0)) else (none))) else (none)) else (none)) else (some (0, ([] : List (S35)), 0, 0, 0, (⟨#[]⟩ : ByteArray), t118))) = some (r1, r2, r3, r4, r5, r6, r7) := H
  have A3 := Aside0.mk A30
  clear A30
  by_cases c4 : t118 = 0
  · rw [if_pos c4] at H
    have c4b0 : (t118 == 0) = true := beq_iff_eq.mpr c4
    have c4b1 : (t118 != 0) = false := bne_eq_false_iff_eq.mpr c4
    clear c4
    by_cases c5 : 0 ≤ t117
    · rw [if_pos c5] at H
      have c5b0 : decide (0 ≤ t117) = true := decide_eq_true c5
      clear c5
      by_cases c6 : t117 < (l0_1.length : Int)
      · rw [if_pos c6] at H
        have c6b0 : decide (t117 < (l0_1.length : Int)) = true := decide_eq_true c6
        clear c6
        replace H := Option.bind_eq_some_iff.mp H
        obtain ⟨t121, A70, H⟩ := H
        replace H : (if t117 < (t121.length : Int) then (some (a0_0, (t121.eraseIdx (t117 : Int).toNat), (rd_T35 l0_1 t117).f0, (rd_T35 l0_1 t117).f1, (rd_T35 l0_1 t117).f2, (rd_T35 l0_1 t117).f3, 0)) else (none)) = some (r1, r2, r3, r4, r5, r6, r7) := H
        have A7 := Aside0.mk A70
        clear A70
        by_cases c8 : t117 < (t121.length : Int)
        · rw [if_pos c8] at H
          have c8b0 : decide (t117 < (t121.length : Int)) = true := decide_eq_true c8
          clear c8
          obtain ⟨y124, hy124⟩ : ∃ y_ : List (S35), y_ = (t121.eraseIdx (t117 : Int).toNat) := ⟨_, rfl⟩
          replace H : (some (a0_0, y124, (rd_T35 l0_1 t117).f0, (rd_T35 l0_1 t117).f1, (rd_T35 l0_1 t117).f2, (rd_T35 l0_1 t117).f3, 0)) = some (r1, r2, r3, r4, r5, r6, r7) := by first | (rw [hy124]; with_reducible exact H) | (have H2_ := (Option.bind_some _ _).symm.trans H; rw [hy124]; with_reducible exact H2_) | (have H2_ := (Option.bind_some _ _).symm.trans H; with_reducible exact H2_) | with_reducible exact H | (rw [hy124]; exact H) | exact H
          have Ny124 := Aside0.mk hy124
          clear hy124
          simp only [Option.some.injEq, Prod.mk.injEq] at H
          obtain ⟨rfl, rfl, rfl, rfl, rfl, rfl, rfl⟩ := H
          go_enter Try.func13, Try.ntmps13
          try go_wp2_with (first | ((with_reducible refine gate_dst (N := 2) rfl ?_); refine box_event ?hg (N := 2) ?hd (cs := #[.int .i64 a0_0, .slice A0_1 l0_1.length c0_1]) (t := 24) ?hr ?_; (case hd => rfl); (case hg => rfl); (case hr => first | (go_simp; done) | (go_simp; rfl)); intro gb114 hg w9 hbox hb; have n0_ := Aside0.mk (below_step HB.out hb); have n1_ := Aside0.mk (hbox); have n2_ := Aside0.mk ((by rw [hg]; exact (below_size HB.out) : w.heap.size ≤ gb114)); have n3_ := Aside0.mk ((by rw [hg]; exact (below_size HB.out) : w.heap.size ≤ gb114)); clear HB; have HB := n0_; have BK114 := n1_; have GW114 := n2_; have GE114 := n3_; clear n0_ n1_ n2_ n3_; clear hb hbox hg) | ((with_reducible refine gate_dst (N := 4) rfl ?_); refine box_event ?hg (N := 4) ?hd (cs := #[.int .i64 0, .slice none 0 0]) (t := 24) ?hr ?_; (case hd => rfl); (case hg => rfl); (case hr => first | (go_simp; done) | (go_simp; rfl)); intro gb115 hg w10 hbox hb; have n0_ := Aside0.mk (blk_below BK114.out hb); have n1_ := Aside0.mk (below_step (by repeat (with_reducible first | exact HB.out | apply pw_below_drewN | apply below_drew1 | refine below_set ?_ GE114.out)) hb); have n2_ := Aside0.mk (hbox); have n3_ := Aside0.mk ((by rw [hg]; exact (below_size (by repeat (with_reducible first | exact HB.out | apply pw_below_drewN | apply below_drew1 | refine below_set ?_ GE114.out))) : w.heap.size ≤ gb115)); have n4_ := Aside0.mk ((by rw [hg]; exact (below_size (by repeat (with_reducible first | exact HB.out | apply pw_below_drewN | apply below_drew1 | refine below_set ?_ GE114.out))) : w.heap.size ≤ gb115)); have n5_ := Aside0.mk ((by rw [hg]; exact Nat.ne_of_lt (blk_lt BK114.out) : gb114 ≠ gb115)); have n6_ := Aside0.mk ((by rw [hg]; exact Nat.ne_of_gt (blk_lt BK114.out) : gb115 ≠ gb114)); clear BK114; clear HB; have BK114 := n0_; have HB := n1_; have BK115 := n2_; have GW115 := n3_; have GE115 := n4_; have NB114_115 := n5_; have NB115_114 := n6_; clear n0_ n1_ n2_ n3_ n4_ n5_ n6_; clear hb hbox hg) | ((with_reducible refine gate_dst (N := 5) rfl ?_); refine box_event ?hg (N := 5) ?hd (cs := #[.int .i64 0, .int .i64 0, .int .i64 0, .string (⟨#[]⟩ : ByteArray)]) (t := 35) ?hr ?_; (case hd => rfl); (case hg => rfl); (case hr => first | (go_simp; done) | (go_simp; rfl)); intro gb116 hg w11 hbox hb; have n0_ := Aside0.mk (blk_below BK114.out hb); have n1_ := Aside0.mk (blk_below BK115.out hb); have n2_ := Aside0.mk (below_step (by repeat (with_reducible first | exact HB.out | apply pw_below_drewN | apply below_drew1 | refine below_set ?_ GE114.out | refine below_set ?_ GE115.out)) hb); have n3_ := Aside0.mk (hbox); have n4_ := Aside0.mk ((by rw [hg]; exact (below_size (by repeat (with_reducible first | exact HB.out | apply pw_below_drewN | apply below_drew1 | refine below_set ?_ GE114.out | refine below_set ?_ GE115.out))) : w.heap.size ≤ gb116)); have n5_ := Aside0.mk ((by rw [hg]; exact (below_size (by repeat (with_reducible first | exact HB.out | apply pw_below_drewN | apply below_drew1 | refine below_set ?_ GE114.out | refine below_set ?_ GE115.out))) : w.heap.size ≤ gb116)); have n6_ := Aside0.mk ((by rw [hg]; exact Nat.ne_of_lt (blk_lt BK114.out) : gb114 ≠ gb116)); have n7_ := Aside0.mk ((by rw [hg]; exact Nat.ne_of_gt (blk_lt BK114.out) : gb116 ≠ gb114)); have n8_ := Aside0.mk ((by rw [hg]; exact Nat.ne_of_lt (blk_lt BK115.out) : gb115 ≠ gb116)); have n9_ := Aside0.mk ((by rw [hg]; exact Nat.ne_of_gt (blk_lt BK115.out) : gb116 ≠ gb115)); clear BK114; clear BK115; clear HB; have BK114 := n0_; have BK115 := n1_; have HB := n2_; have BK116 := n3_; have GW116 := n4_; have GE116 := n5_; have NB114_116 := n6_; have NB116_114 := n7_; have NB115_116 := n8_; have NB116_115 := n9_; clear n0_ n1_ n2_ n3_ n4_ n5_ n6_ n7_ n8_ n9_; clear hb hbox hg; have hnb12 := NB114_115.out; have hnc12 := NB115_114.out; have hnb13 := NB114_116.out; have hnc13 := NB116_114.out; have hcz14_0 : w11.cell? ⟨gb114, 0, none⟩ = some (.int .i64 a0_0) := (blk_cell BK114.out 0).trans rfl; have hcz14_1 : w11.cell? ⟨gb114, 1, none⟩ = some (.slice A0_1 l0_1.length c0_1) := (blk_cell BK114.out 1).trans rfl; have hfz14_0 := blk_frozen BK114.out 0; have hfz14_1 := blk_frozen BK114.out 1) | ((with_reducible refine gate_callee (f := 34) rfl ?_); refine goesL_ (some 13) rfl rfl Try.func34 (by kernel_rfl) rfl #[.agg #[.int .i64 a0_0, .slice A0_1 l0_1.length c0_1], .int .i64 a1] rfl (by (try simp only [List.map_toArray, List.map_cons, List.map_nil]); first | done | rfl | (simp only [List.length_drop, List.length_take]; rfl)) ?_; (with_reducible refine (post_find.calls k a0_0 _ _ l0_1 a1 t117 t118 _ ?side1 ?side2 A3.out).mono ?_); (case side1 => exact (Kd.C_below HR0_1.out HB.out)); (case side2 => exact HC0_1.out); rintro e w15 ⟨rfl, hb⟩; refine ⟨_, rfl, ?_⟩; have n0_ := Aside0.mk (blk_below BK114.out hb); have n1_ := Aside0.mk (blk_below BK115.out hb); have n2_ := Aside0.mk (blk_below (g := gb116) (o := .cells #[.int .i64 0, .int .i64 0, .int .i64 0, .string (⟨#[]⟩ : ByteArray)] 35 (0, 0)) BK116.out hb); have n3_ := Aside0.mk (below_step (by repeat (with_reducible first | exact HB.out | apply pw_below_drewN | apply below_drew1 | refine below_set ?_ GE114.out | refine below_set ?_ GE115.out | refine below_set ?_ GE116.out)) hb); clear BK114; clear BK115; clear BK116; clear HB; have BK114 := n0_; have BK115 := n1_; have BK116 := n2_; have HB := n3_; clear n0_ n1_ n2_ n3_; (try clear hb); (try clear hb2); (try clear hk); (try clear hi); have hcz16_0 : w15.cell? ⟨gb114, 0, none⟩ = some (.int .i64 a0_0) := (blk_cell BK114.out 0).trans rfl; have hcz16_1 : w15.cell? ⟨gb114, 1, none⟩ = some (.slice A0_1 l0_1.length c0_1) := (blk_cell BK114.out 1).trans rfl; have hfz16_0 := blk_frozen BK114.out 0; have hfz16_1 := blk_frozen BK114.out 1; have p119 : 0 ≤ (t117 : Int) := of_decide_eq_true (by first | (with_reducible assumption) | assumption); have q119 : t117 < (l0_1.length : Int) := of_decide_eq_true (by first | (with_reducible assumption) | assumption); obtain ⟨ad119, e119, hx119_0, hx119_1, hx119_2, hx119_3⟩ := at_T35 HR0_1.out t117 p119 q119; cases e119; replace hx119_0 := (HB.out.cell (World.block_lt_of_cell? w _ hx119_0)).trans hx119_0; replace hx119_1 := (HB.out.cell (World.block_lt_of_cell? w _ hx119_1)).trans hx119_1; replace hx119_2 := (HB.out.cell (World.block_lt_of_cell? w _ hx119_2)).trans hx119_2; replace hx119_3 := (HB.out.cell (World.block_lt_of_cell? w _ hx119_3)).trans hx119_3; replace p119 := eq_true p119; replace q119 := eq_true q119) | ((with_reducible refine gate_dst (N := 9) rfl ?_); refine box_event ?hg (N := 9) ?hd (cs := #[.int .i64 0, .int .i64 0, .int .i64 0, .string (⟨#[]⟩ : ByteArray)]) (t := 35) ?hr ?_; (case hd => rfl); (case hg => rfl); (case hr => first | (go_simp; done) | (go_simp; rfl)); intro gb120 hg w17 hbox hb; have n0_ := Aside0.mk (blk_below BK114.out hb); have n1_ := Aside0.mk (blk_below BK115.out hb); have n2_ := Aside0.mk (blk_below (g := gb116) (o := .cells #[.int .i64 0, .int .i64 0, .int .i64 0, .string (⟨#[]⟩ : ByteArray)] 35 (0, 0)) BK116.out hb); have n3_ := Aside0.mk (below_step (by repeat (with_reducible first | exact HB.out | apply pw_below_drewN | apply below_drew1 | refine below_set ?_ GE114.out | refine below_set ?_ GE115.out | refine below_set ?_ GE116.out)) hb); have n4_ := Aside0.mk (hbox); have n5_ := Aside0.mk ((by rw [hg]; exact (below_size (by repeat (with_reducible first | exact HB.out | apply pw_below_drewN | apply below_drew1 | refine below_set ?_ GE114.out | refine below_set ?_ GE115.out | refine below_set ?_ GE116.out))) : w.heap.size ≤ gb120)); have n6_ := Aside0.mk ((by rw [hg]; exact (below_size (by repeat (with_reducible first | exact HB.out | apply pw_below_drewN | apply below_drew1 | refine below_set ?_ GE114.out | refine below_set ?_ GE115.out | refine below_set ?_ GE116.out))) : w.heap.size ≤ gb120)); have n7_ := Aside0.mk ((by rw [hg]; exact Nat.ne_of_lt (blk_lt BK114.out) : gb114 ≠ gb120)); have n8_ := Aside0.mk ((by rw [hg]; exact Nat.ne_of_gt (blk_lt BK114.out) : gb120 ≠ gb114)); have n9_ := Aside0.mk ((by rw [hg]; exact Nat.ne_of_lt (blk_lt BK115.out) : gb115 ≠ gb120)); have n10_ := Aside0.mk ((by rw [hg]; exact Nat.ne_of_gt (blk_lt BK115.out) : gb120 ≠ gb115)); have n11_ := Aside0.mk ((by rw [hg]; exact Nat.ne_of_lt (blk_lt (g := gb116) (o := .cells #[.int .i64 0, .int .i64 0, .int .i64 0, .string (⟨#[]⟩ : ByteArray)] 35 (0, 0)) BK116.out) : gb116 ≠ gb120)); have n12_ := Aside0.mk ((by rw [hg]; exact Nat.ne_of_gt (blk_lt (g := gb116) (o := .cells #[.int .i64 0, .int .i64 0, .int .i64 0, .string (⟨#[]⟩ : ByteArray)] 35 (0, 0)) BK116.out) : gb120 ≠ gb116)); clear BK114; clear BK115; clear BK116; clear HB; have BK114 := n0_; have BK115 := n1_; have BK116 := n2_; have HB := n3_; have BK120 := n4_; have GW120 := n5_; have GE120 := n6_; have NB114_120 := n7_; have NB120_114 := n8_; have NB115_120 := n9_; have NB120_115 := n10_; have NB116_120 := n11_; have NB120_116 := n12_; clear n0_ n1_ n2_ n3_ n4_ n5_ n6_ n7_ n8_ n9_ n10_ n11_ n12_; clear hb hbox hg; have hnb18 := NB120_114.out; have hnc18 := NB114_120.out; have hnb19 := NB120_115.out; have hnc19 := NB115_120.out; have hnb20 := NB120_116.out; have hnc20 := NB116_120.out; have hcz21_0 : w17.cell? ⟨gb120, 0, none⟩ = some (.int .i64 0) := (blk_cell BK120.out 0).trans rfl; have hcz21_1 : w17.cell? ⟨gb120, 1, none⟩ = some (.int .i64 0) := (blk_cell BK120.out 1).trans rfl; have hcz21_2 : w17.cell? ⟨gb120, 2, none⟩ = some (.int .i64 0) := (blk_cell BK120.out 2).trans rfl; have hcz21_3 : w17.cell? ⟨gb120, 3, none⟩ = some (.string (⟨#[]⟩ : ByteArray)) := (blk_cell BK120.out 3).trans rfl; have hfz21_0 := blk_frozen BK120.out 0; have hfz21_1 := blk_frozen BK120.out 1; have hfz21_2 := blk_frozen BK120.out 2; have hfz21_3 := blk_frozen BK120.out 3; have hcz22_0 : w17.cell? ⟨gb114, 0, none⟩ = some (.int .i64 a0_0) := (blk_cell BK114.out 0).trans rfl; have hcz22_1 : w17.cell? ⟨gb114, 1, none⟩ = some (.slice (some ad119) l0_1.length c0_1) := (blk_cell BK114.out 1).trans rfl; have hfz22_0 := blk_frozen BK114.out 0; have hfz22_1 := blk_frozen BK114.out 1) | ((with_reducible refine gate_callee (f := 31) rfl ?_); refine goesL_ (some 28) rfl rfl Try.func31 (by kernel_rfl) rfl #[.slice (some ad119) l0_1.length c0_1] rfl (by (try simp only [List.map_toArray, List.map_cons, List.map_nil]); first | done | rfl | (simp only [List.length_drop, List.length_take]; rfl)) ?_; (with_reducible refine (api_Letter_31.calls _ _ l0_1 t121 _ ?side1 ?side2 A7.out).mono ?_); (case side1 => exact Kd.C_below HR0_1.out (by repeat (with_reducible first | exact HB.out | apply pw_below_drewN | apply below_drew1 | refine below_set ?_ GE114.out | refine below_set ?_ GE115.out | refine below_set ?_ GE116.out | refine below_set ?_ GE120.out))); (case side2 => exact HC0_1.out); rintro e w23 ⟨v122, rfl, ho0, hb⟩; refine ⟨_, rfl, ?_⟩; have n0_ := Aside0.mk (Kd.R_lower (Kd.R_newB (Kd.R_newB ho0 (g := gb116) (o := .cells #[.int .i64 0, .int .i64 0, .int .i64 0, .string (⟨#[]⟩ : ByteArray)] 35 (0, 0)) (by refine blk_far ?_ NB116_120.out _; refine blk_far ?_ NB116_120.out _; refine blk_far ?_ NB116_120.out _; refine blk_far ?_ NB116_120.out _; exact BK116.out)) (g := gb120) (o := .cells #[.int .i64 ((rd_T35 l0_1 t117).f0), .int .i64 ((rd_T35 l0_1 t117).f1), .int .i64 ((rd_T35 l0_1 t117).f2), .string ((rd_T35 l0_1 t117).f3)] 35 (0, 0)) (by refine blk_put (cs := #[.int .i64 ((rd_T35 l0_1 t117).f0), .int .i64 ((rd_T35 l0_1 t117).f1), .int .i64 ((rd_T35 l0_1 t117).f2), .string (⟨#[]⟩ : ByteArray)]) ?_ 3 _ rfl; refine blk_put (cs := #[.int .i64 ((rd_T35 l0_1 t117).f0), .int .i64 ((rd_T35 l0_1 t117).f1), .int .i64 0, .string (⟨#[]⟩ : ByteArray)]) ?_ 2 _ rfl; refine blk_put (cs := #[.int .i64 ((rd_T35 l0_1 t117).f0), .int .i64 0, .int .i64 0, .string (⟨#[]⟩ : ByteArray)]) ?_ 1 _ rfl; refine blk_put (cs := #[.int .i64 0, .int .i64 0, .int .i64 0, .string (⟨#[]⟩ : ByteArray)]) ?_ 0 _ rfl; exact BK120.out)) (below_size (by repeat (with_reducible first | exact HB.out | apply pw_below_drewN | apply below_drew1 | refine below_set ?_ GE114.out | refine below_set ?_ GE115.out | refine below_set ?_ GE116.out | refine below_set ?_ GE120.out)))); have n1_ := Aside0.mk (blk_below (g := gb114) (o := .cells #[.int .i64 a0_0, .slice (some ad119) l0_1.length c0_1] 24 (0, 0)) (by refine blk_far ?_ NB114_120.out _; refine blk_far ?_ NB114_120.out _; refine blk_far ?_ NB114_120.out _; refine blk_far ?_ NB114_120.out _; exact BK114.out) hb); have n2_ := Aside0.mk (blk_below (g := gb115) (o := .cells #[.int .i64 0, .slice none 0 0] 24 (0, 0)) (by refine blk_far ?_ NB115_120.out _; refine blk_far ?_ NB115_120.out _; refine blk_far ?_ NB115_120.out _; refine blk_far ?_ NB115_120.out _; exact BK115.out) hb); have n3_ := Aside0.mk (blk_below (g := gb116) (o := .cells #[.int .i64 0, .int .i64 0, .int .i64 0, .string (⟨#[]⟩ : ByteArray)] 35 (0, 0)) (by refine blk_far ?_ NB116_120.out _; refine blk_far ?_ NB116_120.out _; refine blk_far ?_ NB116_120.out _; refine blk_far ?_ NB116_120.out _; exact BK116.out) hb); have n4_ := Aside0.mk (blk_below (g := gb120) (o := .cells #[.int .i64 ((rd_T35 l0_1 t117).f0), .int .i64 ((rd_T35 l0_1 t117).f1), .int .i64 ((rd_T35 l0_1 t117).f2), .string ((rd_T35 l0_1 t117).f3)] 35 (0, 0)) (by refine blk_put (cs := #[.int .i64 ((rd_T35 l0_1 t117).f0), .int .i64 ((rd_T35 l0_1 t117).f1), .int .i64 ((rd_T35 l0_1 t117).f2), .string (⟨#[]⟩ : ByteArray)]) ?_ 3 _ rfl; refine blk_put (cs := #[.int .i64 ((rd_T35 l0_1 t117).f0), .int .i64 ((rd_T35 l0_1 t117).f1), .int .i64 0, .string (⟨#[]⟩ : ByteArray)]) ?_ 2 _ rfl; refine blk_put (cs := #[.int .i64 ((rd_T35 l0_1 t117).f0), .int .i64 0, .int .i64 0, .string (⟨#[]⟩ : ByteArray)]) ?_ 1 _ rfl; refine blk_put (cs := #[.int .i64 0, .int .i64 0, .int .i64 0, .string (⟨#[]⟩ : ByteArray)]) ?_ 0 _ rfl; exact BK120.out) hb); have n5_ := Aside0.mk (below_step (by repeat (with_reducible first | exact HB.out | apply pw_below_drewN | apply below_drew1 | refine below_set ?_ GE114.out | refine below_set ?_ GE115.out | refine below_set ?_ GE116.out | refine below_set ?_ GE120.out)) hb); clear BK114; clear BK115; clear BK116; clear BK120; clear HB; have HO123 := n0_; have BK114 := n1_; have BK115 := n2_; have BK116 := n3_; have BK120 := n4_; have HB := n5_; clear n0_ n1_ n2_ n3_ n4_ n5_; (try clear hb); (try clear hb2); (try clear hk); (try clear hi); (try clear ho0); have n_ := Aside0.mk (Kd.R_mono (ok' := (fun k_ => k_ ≠ gb116 ∧ k_ ≠ gb120)) HO123.out (fun k_ hk => ⟨hk.1.2, hk.2⟩)); clear HO123; have HO123 := n_; clear n_; obtain ⟨Ao26, co26, eo26⟩ := Kd.R_slice HO123.out; subst eo26) | (go_at_call 35; have hj_ : 0 ≤ (t117 : Int) := of_decide_eq_true (by first | (with_reducible assumption) | assumption); have hl_ : (t117 : Int) < (t121.length : Int) := of_decide_eq_true (by first | (with_reducible assumption) | assumption); obtain ⟨gd25, cap_, ev_, _⟩ := Kd.R_form HO123.out (by omega); injection ev_ with ea_ eb_ ec_; (try clear eb_); (try subst ec_); (first | subst ea_ | (injection ea_ with ea_; subst ea_)); refine (delete_Letter_R.calls (t117 : Int) (HO123.out) hj_ hl_ (by repeat (with_reducible first | exact HB.out | apply pw_below_drewN | apply below_drew1 | refine below_set ?_ GE114.out | refine below_set ?_ GE115.out | refine below_set ?_ GE116.out | refine below_set ?_ GE120.out)) (below_size (by repeat (with_reducible first | exact HB.out | apply pw_below_drewN | apply below_drew1 | refine below_set ?_ GE114.out | refine below_set ?_ GE115.out | refine below_set ?_ GE116.out | refine below_set ?_ GE120.out)))).mono ?_; rintro e w24 ⟨rfl, ho, hb, hg⟩; rw [← Ny124.out] at ho; have hn_ : t121.length - 1 = y124.length := (by have := (Kd.R_reads' ho).1; omega); rw [hn_] at ho ⊢; clear hn_ hj_ hl_; have n0_ := Aside0.mk (blk_grown (g := gb114) (o := .cells #[.int .i64 a0_0, .slice (some ad119) l0_1.length c0_1] 24 (0, 0)) BK114.out hg (Kd.R_ne HO123.out BK114.out (by decide))); have n1_ := Aside0.mk (blk_grown (g := gb115) (o := .cells #[.int .i64 0, .slice none 0 0] 24 (0, 0)) BK115.out hg (Kd.R_ne HO123.out BK115.out (by decide))); have n2_ := Aside0.mk (blk_grown (g := gb116) (o := .cells #[.int .i64 0, .int .i64 0, .int .i64 0, .string (⟨#[]⟩ : ByteArray)] 35 (0, 0)) BK116.out hg (Kd.R_away HO123.out (fun _ hk => hk.1))); have n3_ := Aside0.mk (blk_grown (g := gb120) (o := .cells #[.int .i64 ((rd_T35 l0_1 t117).f0), .int .i64 ((rd_T35 l0_1 t117).f1), .int .i64 ((rd_T35 l0_1 t117).f2), .string ((rd_T35 l0_1 t117).f3)] 35 (0, 0)) BK120.out hg (Kd.R_away HO123.out (fun _ hk => hk.2))); have n4_ := Aside0.mk (ho); have n5_ := Aside0.mk (hb); clear BK114; clear BK115; clear BK116; clear BK120; clear HO123; clear HB; have BK114 := n0_; have BK115 := n1_; have BK116 := n2_; have BK120 := n3_; have HO123 := n4_; have HB := n5_; clear n0_ n1_ n2_ n3_ n4_ n5_; clear ho hb hg; have hcz27_0 : w24.cell? ⟨gb114, 0, none⟩ = some (.int .i64 a0_0) := (blk_cell BK114.out 0).trans rfl; have hcz27_1 : w24.cell? ⟨gb114, 1, none⟩ = some (.slice (some ad119) l0_1.length c0_1) := (blk_cell BK114.out 1).trans rfl; have hfz27_0 := blk_frozen BK114.out 0; have hfz27_1 := blk_frozen BK114.out 1))
          have n0_ : Aside0 (Kd.R k35 35 (w24.setCell ⟨gb114, 1, none⟩ (.slice (some ⟨gd25, 0, none⟩) y124.length co26)) w.heap.size (fun k_ => k_ ≠ gb116 ∧ k_ ≠ gb120) (.slice (some ⟨gd25, 0, none⟩) y124.length co26) y124) := ⟨by (with_reducible repeat (first | apply Kd.R_alloc | apply Kd.R_drewN | apply Kd.R_drew)); exact Kd.R_mono (Kd.R_far (p := ⟨gb114, 1, none⟩) (Kd.R_types HO123.out BK114.out (by decide)) (fun _ hk => hk.2) (.slice (some ⟨gd25, 0, none⟩) y124.length co26)) (fun _ hk => ⟨hk.1.1, hk.1.2⟩)⟩
          have n1_ : Aside0 ((w24.setCell ⟨gb114, 1, none⟩ (.slice (some ⟨gd25, 0, none⟩) y124.length co26)).heap[gb114]? = some (.cells #[.int .i64 a0_0, .slice (some ⟨gd25, 0, none⟩) y124.length co26] 24 (0, 0))) := ⟨by refine blk_put (cs := #[.int .i64 a0_0, .slice (some ad119) l0_1.length c0_1]) ?_ 1 _ rfl; exact BK114.out⟩
          have n2_ : Aside0 ((w24.setCell ⟨gb114, 1, none⟩ (.slice (some ⟨gd25, 0, none⟩) y124.length co26)).heap[gb115]? = some (.cells #[.int .i64 0, .slice none 0 0] 24 (0, 0))) := ⟨by refine blk_far ?_ NB115_114.out _; exact BK115.out⟩
          have n3_ : Aside0 ((w24.setCell ⟨gb114, 1, none⟩ (.slice (some ⟨gd25, 0, none⟩) y124.length co26)).heap[gb116]? = some (.cells #[.int .i64 0, .int .i64 0, .int .i64 0, .string (⟨#[]⟩ : ByteArray)] 35 (0, 0))) := ⟨by refine blk_far ?_ NB116_114.out _; exact BK116.out⟩
          have n4_ : Aside0 ((w24.setCell ⟨gb114, 1, none⟩ (.slice (some ⟨gd25, 0, none⟩) y124.length co26)).heap[gb120]? = some (.cells #[.int .i64 ((rd_T35 l0_1 t117).f0), .int .i64 ((rd_T35 l0_1 t117).f1), .int .i64 ((rd_T35 l0_1 t117).f2), .string ((rd_T35 l0_1 t117).f3)] 35 (0, 0))) := ⟨by refine blk_far ?_ NB120_114.out _; exact BK120.out⟩
          have n5_ : Aside0 (Below w.heap.size w (w24.setCell ⟨gb114, 1, none⟩ (.slice (some ⟨gd25, 0, none⟩) y124.length co26))) := ⟨by repeat (with_reducible first | exact HB.out | apply pw_below_drewN | apply below_drew1 | refine below_set ?_ GE114.out | refine below_set ?_ GE115.out | refine below_set ?_ GE116.out | refine below_set ?_ GE120.out)⟩
          (try clear HO123)
          (try clear BK114)
          (try clear BK115)
          (try clear BK116)
          (try clear BK120)
          (try clear HB)
          generalize (w24.setCell ⟨gb114, 1, none⟩ (.slice (some ⟨gd25, 0, none⟩) y124.length co26)) = w28 at n0_ n1_ n2_ n3_ n4_ n5_ ⊢
          have HO123 := n0_
          have BK114 := n1_
          have BK115 := n2_
          have BK116 := n3_
          have BK120 := n4_
          have HB := n5_
          clear n0_ n1_ n2_ n3_ n4_ n5_
          have n0_ := Aside0.mk (Kd.R_drew HO123.out)
          have n1_ := Aside0.mk (blk_drew BK114.out)
          have n2_ := Aside0.mk (blk_drew BK115.out)
          have n3_ := Aside0.mk (blk_drew BK116.out)
          have n4_ := Aside0.mk (blk_drew BK120.out)
          have n5_ := Aside0.mk (below_drew1 HB.out)
          clear HO123
          clear BK114
          clear BK115
          clear BK116
          clear BK120
          clear HB
          have HO123 := n0_
          have BK114 := n1_
          have BK115 := n2_
          have BK116 := n3_
          have BK120 := n4_
          have HB := n5_
          clear n0_ n1_ n2_ n3_ n4_ n5_
          refine start_ (n := 5) (S := fun w' => w'.cell? ⟨gb114, 0, none⟩ = some (.int .i64 a0_0) ∧ w'.cell? ⟨gb114, 1, none⟩ = some (.slice (some ⟨gd25, 0, none⟩) y124.length co26) ∧ w'.cell? ⟨gb120, 0, none⟩ = some (.int .i64 ((rd_T35 l0_1 t117).f0)) ∧ w'.cell? ⟨gb120, 1, none⟩ = some (.int .i64 ((rd_T35 l0_1 t117).f1)) ∧ w'.cell? ⟨gb120, 2, none⟩ = some (.int .i64 ((rd_T35 l0_1 t117).f2)) ∧ w'.cell? ⟨gb120, 3, none⟩ = some (.string ((rd_T35 l0_1 t117).f3))) (ds := []) #[false, false, false, false, false] (by kernel_rfl) rfl rfl ⟨(blk_cell BK114.out 0).trans rfl, (blk_cell BK114.out 1).trans rfl, (blk_cell BK120.out 0).trans rfl, (blk_cell BK120.out 1).trans rfl, (blk_cell BK120.out 2).trans rfl, (blk_cell BK120.out 3).trans rfl⟩ (fun hHeld => ?_)
          generalize w28.drew = w29 at HO123 BK114 BK115 BK116 BK120 HB hHeld ⊢
          refine take_ (i := 0) (N := some 34) (v := ?_) (a' := ?_) #[true, false, false, false, false] rfl rfl (by kernel_rfl) (fun _ _ _ h => h) (Or.inl ⟨by rfl, ?_⟩) hHeld ?_ ?_
          rotate_left
          · rintro w' ⟨s0, s1, s2, s3, s4, s5⟩
            go_simp
            with_reducible rfl
          rotate_left; (simp only [Act.put, List.setIfInBounds_toArray, List.set_cons_zero, List.set_cons_succ, i64_w, i32_w]; rfl)
          refine take_ (i := 1) (N := some 35) (v := ?_) (a' := ?_) #[true, true, false, false, false] rfl rfl (by kernel_rfl) (fun _ _ _ h => h) (Or.inl ⟨by rfl, ?_⟩) hHeld ?_ ?_
          rotate_left
          · rintro w' ⟨s0, s1, s2, s3, s4, s5⟩
            go_simp
            with_reducible rfl
          rotate_left; (simp only [Act.put, List.setIfInBounds_toArray, List.set_cons_zero, List.set_cons_succ, i64_w, i32_w]; rfl)
          refine one_ (i := 2) (N := none) #[true, true, true, false, false] rfl rfl (by kernel_rfl) (by decide) (fun K hK => ?_)
          have hs30 : w29.cell? ⟨gb115, 0, none⟩ = some (.int .i64 0) := (blk_cell BK115.out 0).trans rfl
          have hfs30 := blk_frozen BK115.out 0
          have hns30_0 := NB114_115.out
          have hns30_2 := NB116_115.out
          have hns30_3 := NB120_115.out
          have hms30_0 := NB115_114.out
          have hms30_2 := NB115_116.out
          have hms30_3 := NB115_120.out
          have hs31 : w29.cell? ⟨gb115, 1, none⟩ = some (.slice none 0 0) := (blk_cell BK115.out 1).trans rfl
          have hfs31 := blk_frozen BK115.out 1
          have hns31_0 := NB114_115.out
          have hns31_2 := NB116_115.out
          have hns31_3 := NB120_115.out
          have hms31_0 := NB115_114.out
          have hms31_2 := NB115_116.out
          have hms31_3 := NB115_120.out
          refine skip_ (w1 := ?_) (by rfl) rfl ?_ ?_
          rotate_left
          · go_simp
            rfl
          refine hK.out _ _ ⟨((cell_far (p := ⟨gb115, _, none⟩) NB114_115.out _).trans (((cell_far (p := ⟨gb115, _, none⟩) NB114_115.out _).trans (hHeld.1)))), ((cell_far (p := ⟨gb115, _, none⟩) NB114_115.out _).trans (((cell_far (p := ⟨gb115, _, none⟩) NB114_115.out _).trans (hHeld.2.1)))), ((cell_far (p := ⟨gb115, _, none⟩) NB120_115.out _).trans (((cell_far (p := ⟨gb115, _, none⟩) NB120_115.out _).trans (hHeld.2.2.1)))), ((cell_far (p := ⟨gb115, _, none⟩) NB120_115.out _).trans (((cell_far (p := ⟨gb115, _, none⟩) NB120_115.out _).trans (hHeld.2.2.2.1)))), ((cell_far (p := ⟨gb115, _, none⟩) NB120_115.out _).trans (((cell_far (p := ⟨gb115, _, none⟩) NB120_115.out _).trans (hHeld.2.2.2.2.1)))), ((cell_far (p := ⟨gb115, _, none⟩) NB120_115.out _).trans (((cell_far (p := ⟨gb115, _, none⟩) NB120_115.out _).trans (hHeld.2.2.2.2.2))))⟩ (fun hHeld => ?_)
          clear hK K
          refine one_ (i := 3) (N := none) #[true, true, true, true, false] rfl rfl (by kernel_rfl) (by decide) (fun K hK => ?_)
          have hs32 : w29.cell? ⟨gb116, 0, none⟩ = some (.int .i64 0) := (blk_cell BK116.out 0).trans rfl
          have hfs32 := blk_frozen BK116.out 0
          have hns32_0 := NB114_116.out
          have hns32_1 := NB115_116.out
          have hns32_3 := NB120_116.out
          have hms32_0 := NB116_114.out
          have hms32_1 := NB116_115.out
          have hms32_3 := NB116_120.out
          have hs33 : w29.cell? ⟨gb116, 1, none⟩ = some (.int .i64 0) := (blk_cell BK116.out 1).trans rfl
          have hfs33 := blk_frozen BK116.out 1
          have hns33_0 := NB114_116.out
          have hns33_1 := NB115_116.out
          have hns33_3 := NB120_116.out
          have hms33_0 := NB116_114.out
          have hms33_1 := NB116_115.out
          have hms33_3 := NB116_120.out
          have hs34 : w29.cell? ⟨gb116, 2, none⟩ = some (.int .i64 0) := (blk_cell BK116.out 2).trans rfl
          have hfs34 := blk_frozen BK116.out 2
          have hns34_0 := NB114_116.out
          have hns34_1 := NB115_116.out
          have hns34_3 := NB120_116.out
          have hms34_0 := NB116_114.out
          have hms34_1 := NB116_115.out
          have hms34_3 := NB116_120.out
          have hs35 : w29.cell? ⟨gb116, 3, none⟩ = some (.string (⟨#[]⟩ : ByteArray)) := (blk_cell BK116.out 3).trans rfl
          have hfs35 := blk_frozen BK116.out 3
          have hns35_0 := NB114_116.out
          have hns35_1 := NB115_116.out
          have hns35_3 := NB120_116.out
          have hms35_0 := NB116_114.out
          have hms35_1 := NB116_115.out
          have hms35_3 := NB116_120.out
          refine skip_ (w1 := ?_) (by rfl) rfl ?_ ?_
          rotate_left
          · go_simp
            rfl
          refine hK.out _ _ ⟨((cell_far (p := ⟨gb116, _, none⟩) NB114_116.out _).trans (((cell_far (p := ⟨gb116, _, none⟩) NB114_116.out _).trans (((cell_far (p := ⟨gb116, _, none⟩) NB114_116.out _).trans (((cell_far (p := ⟨gb116, _, none⟩) NB114_116.out _).trans (hHeld.1)))))))), ((cell_far (p := ⟨gb116, _, none⟩) NB114_116.out _).trans (((cell_far (p := ⟨gb116, _, none⟩) NB114_116.out _).trans (((cell_far (p := ⟨gb116, _, none⟩) NB114_116.out _).trans (((cell_far (p := ⟨gb116, _, none⟩) NB114_116.out _).trans (hHeld.2.1)))))))), ((cell_far (p := ⟨gb116, _, none⟩) NB120_116.out _).trans (((cell_far (p := ⟨gb116, _, none⟩) NB120_116.out _).trans (((cell_far (p := ⟨gb116, _, none⟩) NB120_116.out _).trans (((cell_far (p := ⟨gb116, _, none⟩) NB120_116.out _).trans (hHeld.2.2.1)))))))), ((cell_far (p := ⟨gb116, _, none⟩) NB120_116.out _).trans (((cell_far (p := ⟨gb116, _, none⟩) NB120_116.out _).trans (((cell_far (p := ⟨gb116, _, none⟩) NB120_116.out _).trans (((cell_far (p := ⟨gb116, _, none⟩) NB120_116.out _).trans (hHeld.2.2.2.1)))))))), ((cell_far (p := ⟨gb116, _, none⟩) NB120_116.out _).trans (((cell_far (p := ⟨gb116, _, none⟩) NB120_116.out _).trans (((cell_far (p := ⟨gb116, _, none⟩) NB120_116.out _).trans (((cell_far (p := ⟨gb116, _, none⟩) NB120_116.out _).trans (hHeld.2.2.2.2.1)))))))), ((cell_far (p := ⟨gb116, _, none⟩) NB120_116.out _).trans (((cell_far (p := ⟨gb116, _, none⟩) NB120_116.out _).trans (((cell_far (p := ⟨gb116, _, none⟩) NB120_116.out _).trans (((cell_far (p := ⟨gb116, _, none⟩) NB120_116.out _).trans (hHeld.2.2.2.2.2))))))))⟩ (fun hHeld => ?_)
          clear hK K
          refine pure_ (i := 4) (N := some 6) (v := ?_) (a' := ?_) #[true, true, true, true, true] rfl rfl (by kernel_rfl) (fun _ _ _ h => h) (Or.inl ⟨by rfl, ?_⟩) ?_ ?_
          rotate_left
          · intro w'
            go_simp
            with_reducible rfl
          rotate_left; (simp only [Act.put, List.setIfInBounds_toArray, List.set_cons_zero, List.set_cons_succ, i64_w, i32_w]; rfl)
          refine done_ (by kernel_rfl) ?_
          try go_wp2
          refine bodyPost_ret (results_list (rs := [.cell 4 24, .cell 5 35, .tmp 6]) rfl (by simp) (.cell gb115 24 #[.int .i64 a0_0, .slice (some ⟨gd25, 0, none⟩) y124.length co26] (0, 0) _ rfl (by refine blk_far ?_ NB115_116.out _; refine blk_far ?_ NB115_116.out _; refine blk_far ?_ NB115_116.out _; refine blk_far ?_ NB115_116.out _; refine blk_put (cs := #[.int .i64 a0_0, .slice none 0 0]) ?_ 1 _ rfl; refine blk_put (cs := #[.int .i64 0, .slice none 0 0]) ?_ 0 _ rfl; exact BK115.out) Try.underlying24 rfl (by kernel_rfl) (.cell gb116 35 #[.int .i64 ((rd_T35 l0_1 t117).f0), .int .i64 ((rd_T35 l0_1 t117).f1), .int .i64 ((rd_T35 l0_1 t117).f2), .string ((rd_T35 l0_1 t117).f3)] (0, 0) _ rfl (by refine blk_put (cs := #[.int .i64 ((rd_T35 l0_1 t117).f0), .int .i64 ((rd_T35 l0_1 t117).f1), .int .i64 ((rd_T35 l0_1 t117).f2), .string (⟨#[]⟩ : ByteArray)]) ?_ 3 _ rfl; refine blk_put (cs := #[.int .i64 ((rd_T35 l0_1 t117).f0), .int .i64 ((rd_T35 l0_1 t117).f1), .int .i64 0, .string (⟨#[]⟩ : ByteArray)]) ?_ 2 _ rfl; refine blk_put (cs := #[.int .i64 ((rd_T35 l0_1 t117).f0), .int .i64 0, .int .i64 0, .string (⟨#[]⟩ : ByteArray)]) ?_ 1 _ rfl; refine blk_put (cs := #[.int .i64 0, .int .i64 0, .int .i64 0, .string (⟨#[]⟩ : ByteArray)]) ?_ 0 _ rfl; refine blk_far ?_ NB116_115.out _; refine blk_far ?_ NB116_115.out _; exact BK116.out) Try.underlying35 rfl (by kernel_rfl) (.tmp .nil)))) rfl ?_
          exact ⟨_, by first | rfl | (simp [errW_none, errW_some] <;> rfl) | (simp [*, errW_none, errW_some] <;> rfl), by (with_reducible repeat (first | apply Kd.R_alloc | apply Kd.R_drewN | apply Kd.R_drew)); exact Kd.R_mono (Kd.R_far (p := ⟨gb116, 3, none⟩) (Kd.R_far (p := ⟨gb116, 2, none⟩) (Kd.R_far (p := ⟨gb116, 1, none⟩) (Kd.R_far (p := ⟨gb116, 0, none⟩) (Kd.R_far (p := ⟨gb115, 1, none⟩) (Kd.R_far (p := ⟨gb115, 0, none⟩) (Kd.R_mono (Kd.R_types HO123.out BK115.out (by decide)) (fun k_ hk => (⟨hk, hk.1.1⟩ : _ ∧ k_ ≠ gb116))) (fun _ hk => hk.1.2) (.int .i64 a0_0)) (fun _ hk => hk.1.2) (.slice (some ⟨gd25, 0, none⟩) y124.length co26)) (fun _ hk => hk.2) (.int .i64 ((rd_T35 l0_1 t117).f0))) (fun _ hk => hk.2) (.int .i64 ((rd_T35 l0_1 t117).f1))) (fun _ hk => hk.2) (.int .i64 ((rd_T35 l0_1 t117).f2))) (fun _ hk => hk.2) (.string ((rd_T35 l0_1 t117).f3))) (fun _ hk => trivial), by repeat (with_reducible first | exact HB.out | apply pw_below_drewN | apply below_drew1 | refine below_set ?_ GE114.out | refine below_set ?_ GE115.out | refine below_set ?_ GE116.out | refine below_set ?_ GE120.out)⟩
        · rw [if_neg c8] at H
          exact absurd H (by simp)
      · rw [if_neg c6] at H
        exact absurd H (by simp)
    · rw [if_neg c5] at H
      exact absurd H (by simp)
  · rw [if_neg c4] at H
    have c4b0 : (t118 == 0) = false := beq_eq_false_iff_ne.mpr c4
    have c4b1 : (t118 != 0) = true := bne_iff_ne.mpr c4
    simp only [Option.some.injEq, Prod.mk.injEq] at H
    obtain ⟨rfl, rfl, rfl, rfl, rfl, rfl, rfl⟩ := H
    go_enter Try.func13, Try.ntmps13
    go_wp2_with (first | ((with_reducible refine gate_dst (N := 2) rfl ?_); refine box_event ?hg (N := 2) ?hd (cs := #[.int .i64 a0_0, .slice A0_1 l0_1.length c0_1]) (t := 24) ?hr ?_; (case hd => rfl); (case hg => rfl); (case hr => first | (go_simp; done) | (go_simp; rfl)); intro gb114 hg w36 hbox hb; have n0_ := Aside0.mk (below_step HB.out hb); have n1_ := Aside0.mk (hbox); have n2_ := Aside0.mk ((by rw [hg]; exact (below_size HB.out) : w.heap.size ≤ gb114)); have n3_ := Aside0.mk ((by rw [hg]; exact (below_size HB.out) : w.heap.size ≤ gb114)); clear HB; have HB := n0_; have BK114 := n1_; have GW114 := n2_; have GE114 := n3_; clear n0_ n1_ n2_ n3_; clear hb hbox hg) | ((with_reducible refine gate_dst (N := 4) rfl ?_); refine box_event ?hg (N := 4) ?hd (cs := #[.int .i64 0, .slice none 0 0]) (t := 24) ?hr ?_; (case hd => rfl); (case hg => rfl); (case hr => first | (go_simp; done) | (go_simp; rfl)); intro gb115 hg w37 hbox hb; have n0_ := Aside0.mk (blk_below BK114.out hb); have n1_ := Aside0.mk (below_step (by repeat (with_reducible first | exact HB.out | apply pw_below_drewN | apply below_drew1 | refine below_set ?_ GE114.out)) hb); have n2_ := Aside0.mk (hbox); have n3_ := Aside0.mk ((by rw [hg]; exact (below_size (by repeat (with_reducible first | exact HB.out | apply pw_below_drewN | apply below_drew1 | refine below_set ?_ GE114.out))) : w.heap.size ≤ gb115)); have n4_ := Aside0.mk ((by rw [hg]; exact (below_size (by repeat (with_reducible first | exact HB.out | apply pw_below_drewN | apply below_drew1 | refine below_set ?_ GE114.out))) : w.heap.size ≤ gb115)); have n5_ := Aside0.mk ((by rw [hg]; exact Nat.ne_of_lt (blk_lt BK114.out) : gb114 ≠ gb115)); have n6_ := Aside0.mk ((by rw [hg]; exact Nat.ne_of_gt (blk_lt BK114.out) : gb115 ≠ gb114)); clear BK114; clear HB; have BK114 := n0_; have HB := n1_; have BK115 := n2_; have GW115 := n3_; have GE115 := n4_; have NB114_115 := n5_; have NB115_114 := n6_; clear n0_ n1_ n2_ n3_ n4_ n5_ n6_; clear hb hbox hg) | ((with_reducible refine gate_dst (N := 5) rfl ?_); refine box_event ?hg (N := 5) ?hd (cs := #[.int .i64 0, .int .i64 0, .int .i64 0, .string (⟨#[]⟩ : ByteArray)]) (t := 35) ?hr ?_; (case hd => rfl); (case hg => rfl); (case hr => first | (go_simp; done) | (go_simp; rfl)); intro gb116 hg w38 hbox hb; have n0_ := Aside0.mk (blk_below BK114.out hb); have n1_ := Aside0.mk (blk_below BK115.out hb); have n2_ := Aside0.mk (below_step (by repeat (with_reducible first | exact HB.out | apply pw_below_drewN | apply below_drew1 | refine below_set ?_ GE114.out | refine below_set ?_ GE115.out)) hb); have n3_ := Aside0.mk (hbox); have n4_ := Aside0.mk ((by rw [hg]; exact (below_size (by repeat (with_reducible first | exact HB.out | apply pw_below_drewN | apply below_drew1 | refine below_set ?_ GE114.out | refine below_set ?_ GE115.out))) : w.heap.size ≤ gb116)); have n5_ := Aside0.mk ((by rw [hg]; exact (below_size (by repeat (with_reducible first | exact HB.out | apply pw_below_drewN | apply below_drew1 | refine below_set ?_ GE114.out | refine below_set ?_ GE115.out))) : w.heap.size ≤ gb116)); have n6_ := Aside0.mk ((by rw [hg]; exact Nat.ne_of_lt (blk_lt BK114.out) : gb114 ≠ gb116)); have n7_ := Aside0.mk ((by rw [hg]; exact Nat.ne_of_gt (blk_lt BK114.out) : gb116 ≠ gb114)); have n8_ := Aside0.mk ((by rw [hg]; exact Nat.ne_of_lt (blk_lt BK115.out) : gb115 ≠ gb116)); have n9_ := Aside0.mk ((by rw [hg]; exact Nat.ne_of_gt (blk_lt BK115.out) : gb116 ≠ gb115)); clear BK114; clear BK115; clear HB; have BK114 := n0_; have BK115 := n1_; have HB := n2_; have BK116 := n3_; have GW116 := n4_; have GE116 := n5_; have NB114_116 := n6_; have NB116_114 := n7_; have NB115_116 := n8_; have NB116_115 := n9_; clear n0_ n1_ n2_ n3_ n4_ n5_ n6_ n7_ n8_ n9_; clear hb hbox hg; have hnb39 := NB114_115.out; have hnc39 := NB115_114.out; have hnb40 := NB114_116.out; have hnc40 := NB116_114.out; have hcz41_0 : w38.cell? ⟨gb114, 0, none⟩ = some (.int .i64 a0_0) := (blk_cell BK114.out 0).trans rfl; have hcz41_1 : w38.cell? ⟨gb114, 1, none⟩ = some (.slice A0_1 l0_1.length c0_1) := (blk_cell BK114.out 1).trans rfl; have hfz41_0 := blk_frozen BK114.out 0; have hfz41_1 := blk_frozen BK114.out 1) | ((with_reducible refine gate_callee (f := 34) rfl ?_); refine goesL_ (some 13) rfl rfl Try.func34 (by kernel_rfl) rfl #[.agg #[.int .i64 a0_0, .slice A0_1 l0_1.length c0_1], .int .i64 a1] rfl (by (try simp only [List.map_toArray, List.map_cons, List.map_nil]); first | done | rfl | (simp only [List.length_drop, List.length_take]; rfl)) ?_; (with_reducible refine (post_find.calls k a0_0 _ _ l0_1 a1 t117 t118 _ ?side1 ?side2 A3.out).mono ?_); (case side1 => exact (Kd.C_below HR0_1.out HB.out)); (case side2 => exact HC0_1.out); rintro e w42 ⟨rfl, hb⟩; refine ⟨_, rfl, ?_⟩; have n0_ := Aside0.mk (blk_below BK114.out hb); have n1_ := Aside0.mk (blk_below BK115.out hb); have n2_ := Aside0.mk (blk_below (g := gb116) (o := .cells #[.int .i64 0, .int .i64 0, .int .i64 0, .string (⟨#[]⟩ : ByteArray)] 35 (0, 0)) BK116.out hb); have n3_ := Aside0.mk (below_step (by repeat (with_reducible first | exact HB.out | apply pw_below_drewN | apply below_drew1 | refine below_set ?_ GE114.out | refine below_set ?_ GE115.out | refine below_set ?_ GE116.out)) hb); clear BK114; clear BK115; clear BK116; clear HB; have BK114 := n0_; have BK115 := n1_; have BK116 := n2_; have HB := n3_; clear n0_ n1_ n2_ n3_; (try clear hb); (try clear hb2); (try clear hk); (try clear hi); have hnb43 := NB115_116.out; have hnc43 := NB116_115.out; have hcz44_0 : w42.cell? ⟨gb115, 0, none⟩ = some (.int .i64 0) := (blk_cell BK115.out 0).trans rfl; have hcz44_1 : w42.cell? ⟨gb115, 1, none⟩ = some (.slice none 0 0) := (blk_cell BK115.out 1).trans rfl; have hfz44_0 := blk_frozen BK115.out 0; have hfz44_1 := blk_frozen BK115.out 1; have hcz45_0 : w42.cell? ⟨gb116, 0, none⟩ = some (.int .i64 0) := (blk_cell BK116.out 0).trans rfl; have hcz45_1 : w42.cell? ⟨gb116, 1, none⟩ = some (.int .i64 0) := (blk_cell BK116.out 1).trans rfl; have hcz45_2 : w42.cell? ⟨gb116, 2, none⟩ = some (.int .i64 0) := (blk_cell BK116.out 2).trans rfl; have hcz45_3 : w42.cell? ⟨gb116, 3, none⟩ = some (.string (⟨#[]⟩ : ByteArray)) := (blk_cell BK116.out 3).trans rfl; have hfz45_0 := blk_frozen BK116.out 0; have hfz45_1 := blk_frozen BK116.out 1; have hfz45_2 := blk_frozen BK116.out 2; have hfz45_3 := blk_frozen BK116.out 3))
    refine bodyPost_ret (results_list (rs := [.cell 4 24, .cell 5 35, .tmp 6]) rfl (by simp) (.cell gb115 24 #[.int .i64 0, .slice none 0 0] (0, 0) _ rfl (by refine blk_far ?_ NB115_116.out _; refine blk_far ?_ NB115_116.out _; refine blk_far ?_ NB115_116.out _; refine blk_far ?_ NB115_116.out _; refine blk_put (cs := #[.int .i64 0, .slice none 0 0]) ?_ 1 _ rfl; refine blk_put (cs := #[.int .i64 0, .slice none 0 0]) ?_ 0 _ rfl; exact BK115.out) Try.underlying24 rfl (by kernel_rfl) (.cell gb116 35 #[.int .i64 0, .int .i64 0, .int .i64 0, .string (⟨#[]⟩ : ByteArray)] (0, 0) _ rfl (by refine blk_put (cs := #[.int .i64 0, .int .i64 0, .int .i64 0, .string (⟨#[]⟩ : ByteArray)]) ?_ 3 _ rfl; refine blk_put (cs := #[.int .i64 0, .int .i64 0, .int .i64 0, .string (⟨#[]⟩ : ByteArray)]) ?_ 2 _ rfl; refine blk_put (cs := #[.int .i64 0, .int .i64 0, .int .i64 0, .string (⟨#[]⟩ : ByteArray)]) ?_ 1 _ rfl; refine blk_put (cs := #[.int .i64 0, .int .i64 0, .int .i64 0, .string (⟨#[]⟩ : ByteArray)]) ?_ 0 _ rfl; refine blk_far ?_ NB116_115.out _; refine blk_far ?_ NB116_115.out _; exact BK116.out) Try.underlying35 rfl (by kernel_rfl) (.tmp .nil)))) rfl ?_
    exact ⟨_, by first | rfl | (simp [errW_none, errW_some] <;> rfl) | (simp [*, errW_none, errW_some] <;> rfl), by first | exact Kd.R_nil _ _ _ _ _ | exact Kd.N_nil _ _ _ _ _ | exact Kd.V_nil _ _ _ _ _ | exact Kd.Q_nil _ _ _ _ _ | exact Kd.S_nil _ _ _ _ _, by repeat (with_reducible first | exact HB.out | apply pw_below_drewN | apply below_drew1 | refine below_set ?_ GE114.out | refine below_set ?_ GE115.out | refine below_set ?_ GE116.out)⟩

/-! ### slices_IndexFunc_string_string: function 41 -/
def ix_S (p : ByteArray → Bool) (l : List ByteArray) : Int := match l.findIdx? p with | some i => (i : Int) | none => -1
theorem ix_S_hit (p : ByteArray → Bool) (l : List ByteArray) (i : Nat) (hi : i < l.length) (h : p (rdOf ByteArray.empty l (i : Int)) = true) (hn : ∀ j, j < i → p (rdOf ByteArray.empty l (j : Int)) = false) : ix_S p l = (i : Int) := by
  have e : l.findIdx? p = some i := by
    rw [List.findIdx?_eq_some_iff_getElem]
    refine ⟨hi, ?_, fun j hj => ?_⟩
    · simpa [rdOf, List.getD_eq_getElem?_getD, List.getElem?_eq_getElem hi] using h
    · have := hn j hj
      simpa [rdOf, List.getD_eq_getElem?_getD, List.getElem?_eq_getElem (show j < l.length by omega)] using this
  unfold ix_S; rw [e]
theorem ix_S_miss (p : ByteArray → Bool) (l : List ByteArray) (hn : ∀ j, j < l.length → p (rdOf ByteArray.empty l (j : Int)) = false) : ix_S p l = -1 := by
  have e : l.findIdx? p = none := by
    rw [List.findIdx?_eq_none_iff]
    intro x hx
    obtain ⟨j, hj, rfl⟩ := List.mem_iff_getElem.1 hx
    have := hn j hj
    simpa [rdOf, List.getD_eq_getElem?_getD, List.getElem?_eq_getElem hj] using this
  unfold ix_S; rw [e]
set_option maxHeartbeats 8000000 in
set_option maxRecDepth 100000 in
theorem ixfunc_S.calls (p : ByteArray → Bool) (g : Nat) (lb : Array Value) (eg : ∀ args w, (callFunc g args).run Try.prog w = .ok (.enter g args) w) (A0 : Option Addr) (c0 : Nat) (l0 : List ByteArray) (w : World)
    (hp : ∀ (W : World) (x : ByteArray), Below w.heap.size w W → Calls Try.prog g (#[.string x] ++ lb) W fun e w' => e = .returned (.bool (p x)) ∧ Below w.heap.size w w')
    (hr0 : Kd.C Kd.string w A0 l0.length l0) :
    Calls Try.prog 41 #[.slice A0 l0.length c0, .func (.func g) #[] lb] w fun e w' => e = .returned (.int .i64 (ix_S p l0)) ∧ Below w.heap.size w w' := by
  have hbig := hr0.2.1
  have HR0 := Aside0.mk hr0
  have HP := Aside0.mk hp
  clear hr0 hp
  go_enter Try.func41, Try.ntmps41
  go_wp2
  go_loopg [5, 8] l0.length (fun gg _ s8 wr => ∃ kk : Nat, kk ≤ l0.length ∧ l0.length - kk ≤ gg ∧ s8 = .int .i64 kk ∧ Aside0 (Below w.heap.size w wr) ∧ Aside0 (∀ j, j < kk → p (rdOf ByteArray.empty l0 (j : Int)) = false))
  case atStart => exact ⟨0, Nat.zero_le _, by omega, rfl, ⟨Below.refl _ w⟩, ⟨fun j hj => absurd hj (Nat.not_lt_zero _)⟩⟩
  case round =>
    obtain ⟨kk, hkk, hg, rfl, BW, A⟩ := hrel
    by_cases hlt : kk < l0.length
    · have hltz : (kk : Int) < (l0.length : Int) := by omega
      obtain ⟨ad, e0, hx⟩ := Kd.at_string (Kd.C_below HR0.out BW.out) (kk : Int) (by omega) hltz
      cases e0
      simp only [Int.toNat_natCast] at hx
      have hcall := HP.out wr (rdOf ByteArray.empty l0 (kk : Int)) BW.out
      cases hq : p (rdOf ByteArray.empty l0 (kk : Int)) with
      | true =>
        rw [hq] at hcall
        have Q := Aside0.mk hq
        clear hq
        go_wp2_with (go_at_fn g; refine hcall.mono ?_; rintro e w' ⟨rfl, hb'⟩)
        go_ret
        exact ⟨by rw [ix_S_hit p l0 kk hlt Q.out A.out]; rfl, hb'⟩
      | false =>
        rw [hq] at hcall
        have Q := Aside0.mk hq
        clear hq
        go_wp2_with (go_at_fn g; refine hcall.mono ?_; rintro e w' ⟨rfl, hb'⟩)
        go_roundg (l0.length - (kk + 1))
        case measure => omega
        case rel =>
          refine ⟨kk + 1, by omega, by omega, by go_num, ⟨hb'⟩, ⟨fun j hj => ?_⟩⟩
          by_cases e : j = kk
          · subst e; exact Q.out
          · exact A.out j (by omega)
    · have hltz : ¬ (kk : Int) < (l0.length : Int) := by omega
      go_wp2
      go_ret
      exact ⟨by rw [ix_S_miss p l0 (fun j hj => A.out j (by omega))]; rfl, BW.out⟩

end Go.Proofs.Ytofbkpdpgmjllaa.F
