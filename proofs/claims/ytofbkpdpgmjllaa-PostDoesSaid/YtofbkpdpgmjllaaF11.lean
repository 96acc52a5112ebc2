-- Written by a program of this session (xprint.py), out of the translation and of contracts proved by hand.
import Derived.Test.YtofbkpdpgmjllaaF0
import Derived.Test.YtofbkpdpgmjllaaF4
import Derived.Test.YtofbkpdpgmjllaaF5
namespace Go.Proofs.Ytofbkpdpgmjllaa.F
open Go.RowKit Go.Proofs.YtofbkpdpgmjllaaV.PrintWords Go.Proofs.YtofbkpdpgmjllaaV.PrintLast Go.Proofs.YtofbkpdpgmjllaaV.PrintMore
attribute [local go_sem] max2_int min2_int max_two min_two max_three min_three max_four min_four   -- for this text's walks alone
set_option linter.unusedVariables false
set_option linter.unusedSimpArgs false

/-! ### watchmanref01_OwnTexts: function 12 -/
def watchmanref01_OwnTexts.f (l0 : List ByteArray) : Option (List ByteArray) := if ([] : List ByteArray).length + l0.length < 8796093022208 then (some (([] : List ByteArray) ++ l0)) else (none)
set_option maxHeartbeats 8000000 in
set_option maxRecDepth 100000 in
theorem watchmanref01_OwnTexts.calls (A0 : Option Addr) (c0 : Nat) (l0 : List ByteArray) (r : List ByteArray) (w : World) (hr0 : Kd.C Kd.string w A0 l0.length l0) (hc0 : l0.length ≤ c0) (h : watchmanref01_OwnTexts.f l0 = some r) :
    Calls Try.prog 12 #[.slice A0 l0.length c0] w fun e w' => ∃ v0_ : Value, e = .returned (v0_) ∧ Kd.R Kd.string 9 w' w.heap.size (fun _ => True) v0_ r ∧ Below w.heap.size w w' := by
  have HR0 := Aside0.mk hr0
  have HC0 := Aside0.mk hc0
  clear hr0 hc0
  have HB := Aside0.mk (Below.refl w.heap.size w)
  have H : (if ([] : List ByteArray).length + l0.length < 8796093022208 then (some (([] : List ByteArray) ++ l0)) else (none)) = some r := h
  clear h
  by_cases c2 : ([] : List ByteArray).length + l0.length < 8796093022208
  · rw [if_pos c2] at H
    have LMc2 := Aside0.mk c2
    clear c2
    obtain ⟨y154, hy154⟩ : ∃ y_ : List ByteArray, y_ = (([] : List ByteArray) ++ l0) := ⟨_, rfl⟩
    replace H : (some y154) = some r := by first | (rw [hy154]; with_reducible exact H) | (have H2_ := (Option.bind_some _ _).symm.trans H; rw [hy154]; with_reducible exact H2_) | (have H2_ := (Option.bind_some _ _).symm.trans H; with_reducible exact H2_) | with_reducible exact H | (rw [hy154]; exact H) | exact H
    have Ny154 := Aside0.mk hy154
    clear hy154
    obtain rfl := Option.some.inj H
    go_enter Try.func12, Try.ntmps12
    go_wp2_with (first | ((with_reducible refine gate_builtin (b := .append) (xs := #[.tmp 4, .tmp 5]) rfl ?_); at_builtin; refine Kd.R_append_rows Kd.string (w0 := w) w.heap.size rfl (.tmp 4) (.tmp 5) 25 9 (.string ⟨#[]⟩) 16 rfl Try.underlying25 info9 rfl (by decide) (by omega) (.slice none 0 0) ([] : List ByteArray) l0 _ _ _ (fun _ => True) (fun _ => False) rfl rfl ?aO ?aR (fun _ _ h => h) (fun _ h => h.elim) ?aF ?aB ?aS ?aL ?_; (case aR => repeat (first | exact HR0.out | (with_reducible refine Kd.C_alloc ?_ _) | (with_reducible refine Kd.C_drewN ?_ _) | (with_reducible refine Kd.C_drew ?_))); (case aB => exact HB.out); (case aF => exact (fun _ _ => trivial)); (case aO => exact ((Kd.R_nil _ _ _ _ (fun _ => True)))); (case aS => exact (below_size HB.out)); (case aL => have := LMc2.out; omega); intro v155 w3 ho hb hg hat; rw [← Ny154.out] at ho; replace HB := Aside0.mk (hb); have HO156 := Aside0.mk (ho); clear ho hb hg hat))
    go_ret
    exact ⟨_, by first | rfl | (simp [errW_none, errW_some] <;> rfl) | (simp [*, errW_none, errW_some] <;> rfl), by (with_reducible repeat (first | apply Kd.R_alloc | apply Kd.R_drewN | apply Kd.R_drew)); exact HO156.out, by repeat (with_reducible first | exact HB.out | apply pw_below_drewN | apply below_drew1)⟩
  · rw [if_neg c2] at H
    exact absurd H (by simp)

/-! ### api_Letter_42: function 42 -/
def ix_Letter (p : S35 → Bool) (l : List S35) : Int := match l.findIdx? p with | some i => (i : Int) | none => -1
theorem ix_Letter_hit (p : S35 → Bool) (l : List S35) (i : Nat) (hi : i < l.length) (h : p (rd_T35 l (i : Int)) = true) (hn : ∀ j, j < i → p (rd_T35 l (j : Int)) = false) : ix_Letter p l = (i : Int) := by
  have e : l.findIdx? p = some i := by
    rw [List.findIdx?_eq_some_iff_getElem]
    refine ⟨hi, ?_, fun j hj => ?_⟩
    · simpa [rd_T35, List.getD_eq_getElem?_getD, List.getElem?_eq_getElem hi] using h
    · have := hn j hj
      simpa [rd_T35, List.getD_eq_getElem?_getD, List.getElem?_eq_getElem (show j < l.length by omega)] using this
  unfold ix_Letter; rw [e]
theorem ix_Letter_miss (p : S35 → Bool) (l : List S35) (hn : ∀ j, j < l.length → p (rd_T35 l (j : Int)) = false) : ix_Letter p l = -1 := by
  have e : l.findIdx? p = none := by
    rw [List.findIdx?_eq_none_iff]
    intro x hx
    obtain ⟨j, hj, rfl⟩ := List.mem_iff_getElem.1 hx
    have := hn j hj
    simpa [rd_T35, List.getD_eq_getElem?_getD, List.getElem?_eq_getElem hj] using this
  unfold ix_Letter; rw [e]
set_option maxHeartbeats 8000000 in
set_option maxRecDepth 100000 in
theorem ixfunc_Letter.calls (p : S35 → Bool) (g : Nat) (lb : Array Value) (eg : ∀ args w, (callFunc g args).run Try.prog w = .ok (.enter g args) w) (A0 : Option Addr) (c0 : Nat) (l0 : List S35) (w : World)
    (hp : ∀ (W : World) (x : S35), Below w.heap.size w W → Calls Try.prog g (#[.agg #[.int .i64 x.f0, .int .i64 x.f1, .int .i64 x.f2, .string x.f3]] ++ lb) W fun e w' => e = .returned (.bool (p x)) ∧ Below w.heap.size w w')
    (hr0 : Kd.C k35 w A0 l0.length l0) :
    Calls Try.prog 42 #[.slice A0 l0.length c0, .func (.func g) #[] lb] w fun e w' => e = .returned (.int .i64 (ix_Letter p l0)) ∧ Below w.heap.size w w' := by
  have hu_ := Try.underlying35
  have hbig := hr0.2.1
  have HR0 := Aside0.mk hr0
  have HP := Aside0.mk hp
  clear hr0 hp
  go_enter Try.func42, Try.ntmps42
  go_wp2
  go_loopg [5, 8] l0.length (fun gg _ s8 wr => ∃ kk : Nat, kk ≤ l0.length ∧ l0.length - kk ≤ gg ∧ s8 = .int .i64 kk ∧ Aside0 (Below w.heap.size w wr) ∧ Aside0 (∀ j, j < kk → p (rd_T35 l0 (j : Int)) = false))
  case atStart => exact ⟨0, Nat.zero_le _, by omega, rfl, ⟨Below.refl _ w⟩, ⟨fun j hj => absurd hj (Nat.not_lt_zero _)⟩⟩
  case round =>
    obtain ⟨kk, hkk, hg, rfl, BW, A⟩ := hrel
    by_cases hlt : kk < l0.length
    · have hltz : (kk : Int) < (l0.length : Int) := by omega
      obtain ⟨ad, e0, hx0, hx1, hx2, hx3⟩ := at_T35 (Kd.C_below HR0.out BW.out) (kk : Int) (by omega) hltz
      cases e0
      simp only [Int.toNat_natCast] at hx0 hx1 hx2 hx3
      have hcall := HP.out wr (rd_T35 l0 (kk : Int))  BW.out
      generalize hy_ : rd_T35 l0 (kk : Int) = y_ at hcall hx0 hx1 hx2 hx3
      have Y := Aside0.mk hy_
      clear hy_
      cases hq : p y_ with
      | true =>
        rw [hq] at hcall
        have Q := Aside0.mk hq
        clear hq
        go_wp2_with (go_at_fn g; refine hcall.mono ?_; rintro e w' ⟨rfl, hb'⟩)
        go_ret
        exact ⟨by rw [ix_Letter_hit p l0 kk hlt (by rw [Y.out]; exact Q.out) A.out]; rfl, hb'⟩
      | false =>
        rw [hq] at hcall
        have Q := Aside0.mk hq
        clear hq
        go_wp2_with (go_at_fn g; refine hcall.mono ?_; rintro e w' ⟨rfl, hb'⟩)
        go_roundg (l0.length - (kk + 1))
        case measure => omega
        case rel =>
          refine ⟨kk + 1, by omega, by omega, by go_num, ⟨hb'⟩, ⟨fun j hj => ?_⟩⟩
          by_cases e : j = kk
          · subst e; rw [Y.out]; exact Q.out
          · exact A.out j (by omega)
    · have hltz : ¬ (kk : Int) < (l0.length : Int) := by omega
      go_wp2
      go_ret
      exact ⟨by rw [ix_Letter_miss p l0 (fun j hj => A.out j (by omega))]; rfl, BW.out⟩

/-! ### post_find: function 34 -/
def post_find.f (k : Nat) (a0_0 : Int) (l0_1 : List S35) (a1 : Int) : Option (Int × Int) :=
  (post_Is.f k a0_0 l0_1).bind fun b => if b = true then (if ix_Letter (fun x => decide (x.f0 = a1)) l0_1 < 0 then some (0, 80) else some (ix_Letter (fun x => decide (x.f0 = a1)) l0_1, 0)) else some (0, 1)
theorem post_find.mono : ∀ a0 a1 a2 k, LeO (post_find.f k a0 a1 a2) (post_find.f (k + 1) a0 a1 a2) := by
  intro a0 a1 a2 k
  unfold post_find.f
  exact LeO.bind (post_Is.mono a0 a1 k) (fun b => LeO.refl _)
theorem post_find.one (id : Int) (B : Nat) (w : World) (hB : B < w.heap.size) (hcell : w.cell? ⟨B, 0, none⟩ = some (.int .i64 id)) (W : World) (x : S35) (hb : Below w.heap.size w W) :
    Calls Try.prog 43 (#[.agg #[.int .i64 x.f0, .int .i64 x.f1, .int .i64 x.f2, .string x.f3]] ++ #[.pointer (some ⟨B, 0, none⟩)]) W fun e w' => e = .returned (.bool (decide (x.f0 = id))) ∧ Below w.heap.size w w' := by
  have hc : W.cell? ⟨B, 0, none⟩ = some (.int .i64 id) := (hb.cell (p := ⟨B, 0, none⟩) hB).trans hcell
  have hBW : B < W.heap.size := Nat.lt_of_lt_of_le hB hb.size
  have hne : B ≠ W.heap.size := by omega
  obtain ⟨x0, x1, x2, x3⟩ := x
  show Calls Try.prog 43 #[.agg #[.int .i64 x0, .int .i64 x1, .int .i64 x2, .string x3], .pointer (some ⟨B, 0, none⟩)] W _
  clear hcell
  go_enter Try.func43, Try.ntmps43
  go_wp2
  all_goals (go_ret; exact ⟨by first | (simp_all; done) | (simp_all; rfl), hb.alloc hb.size _⟩)
set_option maxHeartbeats 8000000 in
set_option maxRecDepth 100000 in
theorem post_find.calls (k : Nat) (a0_0 : Int) (A0_1 : Option Addr) (c0_1 : Nat) (l0_1 : List S35) (a1 : Int) (r1 : Int) (r2 : Int) (w : World) (hr0_1 : Kd.C k35 w A0_1 l0_1.length l0_1) (hc0_1 : l0_1.length ≤ c0_1) (h : post_find.f k a0_0 l0_1 a1 = some (r1, r2)) :
    Calls Try.prog 34 #[.agg #[.int .i64 a0_0, .slice A0_1 l0_1.length c0_1], .int .i64 a1] w fun e w' => e = .returned (.tuple #[.int .i64 r1, .int .i64 r2]) ∧ Below w.heap.size w w' := by
  have hu24 := Try.underlying24
  have hu35 := Try.underlying35
  have eg : ∀ args w, (callFunc 43 args).run Try.prog w = .ok (.enter 43 args) w := enters_of Try.func43 (by kernel_rfl) rfl
  have HR := Aside0.mk hr0_1
  have HC := Aside0.mk hc0_1
  clear hr0_1 hc0_1
  have HB := Aside0.mk (Below.refl w.heap.size w)
  have hh := Option.bind_eq_some_iff.mp h
  clear h
  obtain ⟨b, hb0, h⟩ := hh
  have IS := Aside0.mk hb0
  clear hb0
  cases b with
  | false =>
    rw [if_neg (by decide)] at h
    simp only [Option.some.injEq, Prod.mk.injEq] at h
    obtain ⟨rfl, rfl⟩ := h
    go_enter Try.func34, Try.ntmps34
    go_wp2_with (first | ((with_reducible refine gate_dst (N := 2) rfl ?_); refine box_event ?hg (N := 2) ?hd (cs := #[.int .i64 a0_0, .slice A0_1 l0_1.length c0_1]) (t := 24) ?hr ?_; (case hd => rfl); (case hg => rfl); (case hr => first | (go_simp; done) | (go_simp; rfl)); intro gbB hg w3 hbox hb; have n0_ := Aside0.mk (below_step HB.out hb); have n1_ := Aside0.mk hbox; have n2_ := Aside0.mk ((by rw [hg]; exact (below_size HB.out)) : w.heap.size ≤ gbB); clear HB; have HB := n0_; have BKB := n1_; have GEB := n2_; clear n0_ n1_ n2_; clear hb hbox hg) | ((with_reducible refine gate_dst (N := 3) rfl ?_); refine box_event ?hg (N := 3) ?hd (cs := #[.int .i64 a1]) (t := 3) ?hr ?_; (case hd => rfl); (case hg => rfl); (case hr => first | (go_simp; done) | (go_simp; rfl)); intro gbN hg w4 hbox hb; have n0_ := Aside0.mk (below_step HB.out hb); have n1_ := Aside0.mk hbox; have n2_ := Aside0.mk ((by rw [hg]; exact (below_size HB.out)) : w.heap.size ≤ gbN); have m0_ := Aside0.mk (blk_below BKB.out hb); clear HB; clear BKB; have HB := n0_; have BKN := n1_; have GEN := n2_; have BKB := m0_; clear n0_ n1_ n2_ m0_; clear hb hbox hg; have hczB_0 : w4.cell? ⟨gbB, 0, none⟩ = some (.int .i64 a0_0) := (blk_cell BKB.out 0).trans rfl; have hczB_1 : w4.cell? ⟨gbB, 1, none⟩ = some (.slice A0_1 l0_1.length c0_1) := (blk_cell BKB.out 1).trans rfl) | (go_at_call 25; refine (post_Is.calls k a0_0 A0_1 c0_1 l0_1 _ w4 (Kd.C_below HR.out HB.out) HC.out IS.out).mono ?_; rintro e w5 ⟨rfl, hb⟩; (try clear hczB_0 hczB_1); have n0_ := Aside0.mk (below_step HB.out hb); have m0_ := Aside0.mk (blk_below BKB.out hb); have m1_ := Aside0.mk (blk_below BKN.out hb); clear HB BKB BKN; have HB := n0_; have BKB := m0_; have BKN := m1_; clear n0_ m0_ m1_ hb; have hczB_0 : w5.cell? ⟨gbB, 0, none⟩ = some (.int .i64 a0_0) := (blk_cell BKB.out 0).trans rfl; have hczB_1 : w5.cell? ⟨gbB, 1, none⟩ = some (.slice A0_1 l0_1.length c0_1) := (blk_cell BKB.out 1).trans rfl; have HCON := Aside0.mk (ixfunc_Letter.calls (fun x => decide (x.f0 = a1)) 43 #[.pointer (some ⟨gbN, 0, none⟩)] eg A0_1 c0_1 l0_1 w5 (fun W x hb => post_find.one a1 gbN w5 (blk_lt BKN.out) ((blk_cell BKN.out 0).trans rfl) W x hb) (Kd.C_below HR.out HB.out))))
    go_ret2
    exact ⟨rfl, HB.out⟩
  | true =>
    rw [if_pos rfl] at h
    generalize hq : ix_Letter (fun x => decide (x.f0 = a1)) l0_1 = q at h
    have Q := Aside0.mk hq
    clear hq
    by_cases c : q < 0
    · rw [if_pos c] at h
      have c0 : decide (q < 0) = true := decide_eq_true c
      simp only [Option.some.injEq, Prod.mk.injEq] at h
      obtain ⟨rfl, rfl⟩ := h
      clear c
      go_enter Try.func34, Try.ntmps34
      go_wp2_with (first | ((with_reducible refine gate_dst (N := 2) rfl ?_); refine box_event ?hg (N := 2) ?hd (cs := #[.int .i64 a0_0, .slice A0_1 l0_1.length c0_1]) (t := 24) ?hr ?_; (case hd => rfl); (case hg => rfl); (case hr => first | (go_simp; done) | (go_simp; rfl)); intro gbB hg w3 hbox hb; have n0_ := Aside0.mk (below_step HB.out hb); have n1_ := Aside0.mk hbox; have n2_ := Aside0.mk ((by rw [hg]; exact (below_size HB.out)) : w.heap.size ≤ gbB); clear HB; have HB := n0_; have BKB := n1_; have GEB := n2_; clear n0_ n1_ n2_; clear hb hbox hg) | ((with_reducible refine gate_dst (N := 3) rfl ?_); refine box_event ?hg (N := 3) ?hd (cs := #[.int .i64 a1]) (t := 3) ?hr ?_; (case hd => rfl); (case hg => rfl); (case hr => first | (go_simp; done) | (go_simp; rfl)); intro gbN hg w4 hbox hb; have n0_ := Aside0.mk (below_step HB.out hb); have n1_ := Aside0.mk hbox; have n2_ := Aside0.mk ((by rw [hg]; exact (below_size HB.out)) : w.heap.size ≤ gbN); have m0_ := Aside0.mk (blk_below BKB.out hb); clear HB; clear BKB; have HB := n0_; have BKN := n1_; have GEN := n2_; have BKB := m0_; clear n0_ n1_ n2_ m0_; clear hb hbox hg; have hczB_0 : w4.cell? ⟨gbB, 0, none⟩ = some (.int .i64 a0_0) := (blk_cell BKB.out 0).trans rfl; have hczB_1 : w4.cell? ⟨gbB, 1, none⟩ = some (.slice A0_1 l0_1.length c0_1) := (blk_cell BKB.out 1).trans rfl) | (go_at_call 25; refine (post_Is.calls k a0_0 A0_1 c0_1 l0_1 _ w4 (Kd.C_below HR.out HB.out) HC.out IS.out).mono ?_; rintro e w5 ⟨rfl, hb⟩; (try clear hczB_0 hczB_1); have n0_ := Aside0.mk (below_step HB.out hb); have m0_ := Aside0.mk (blk_below BKB.out hb); have m1_ := Aside0.mk (blk_below BKN.out hb); clear HB BKB BKN; have HB := n0_; have BKB := m0_; have BKN := m1_; clear n0_ m0_ m1_ hb; have hczB_0 : w5.cell? ⟨gbB, 0, none⟩ = some (.int .i64 a0_0) := (blk_cell BKB.out 0).trans rfl; have hczB_1 : w5.cell? ⟨gbB, 1, none⟩ = some (.slice A0_1 l0_1.length c0_1) := (blk_cell BKB.out 1).trans rfl; have HCON := Aside0.mk (ixfunc_Letter.calls (fun x => decide (x.f0 = a1)) 43 #[.pointer (some ⟨gbN, 0, none⟩)] eg A0_1 c0_1 l0_1 w5 (fun W x hb => post_find.one a1 gbN w5 (blk_lt BKN.out) ((blk_cell BKN.out 0).trans rfl) W x hb) (Kd.C_below HR.out HB.out))) | (go_at_call 42; refine HCON.out.mono ?_; rintro e w6 ⟨rfl, hb⟩; rw [Q.out]; have n0_ := Aside0.mk (below_step HB.out hb); clear HCON HB; have HB := n0_; clear n0_ hb))
      go_ret2
      exact ⟨rfl, HB.out⟩
    · rw [if_neg c] at h
      have c0 : decide (q < 0) = false := decide_eq_false c
      simp only [Option.some.injEq, Prod.mk.injEq] at h
      obtain ⟨rfl, rfl⟩ := h
      clear c
      go_enter Try.func34, Try.ntmps34
      go_wp2_with (first | ((with_reducible refine gate_dst (N := 2) rfl ?_); refine box_event ?hg (N := 2) ?hd (cs := #[.int .i64 a0_0, .slice A0_1 l0_1.length c0_1]) (t := 24) ?hr ?_; (case hd => rfl); (case hg => rfl); (case hr => first | (go_simp; done) | (go_simp; rfl)); intro gbB hg w3 hbox hb; have n0_ := Aside0.mk (below_step HB.out hb); have n1_ := Aside0.mk hbox; have n2_ := Aside0.mk ((by rw [hg]; exact (below_size HB.out)) : w.heap.size ≤ gbB); clear HB; have HB := n0_; have BKB := n1_; have GEB := n2_; clear n0_ n1_ n2_; clear hb hbox hg) | ((with_reducible refine gate_dst (N := 3) rfl ?_); refine box_event ?hg (N := 3) ?hd (cs := #[.int .i64 a1]) (t := 3) ?hr ?_; (case hd => rfl); (case hg => rfl); (case hr => first | (go_simp; done) | (go_simp; rfl)); intro gbN hg w4 hbox hb; have n0_ := Aside0.mk (below_step HB.out hb); have n1_ := Aside0.mk hbox; have n2_ := Aside0.mk ((by rw [hg]; exact (below_size HB.out)) : w.heap.size ≤ gbN); have m0_ := Aside0.mk (blk_below BKB.out hb); clear HB; clear BKB; have HB := n0_; have BKN := n1_; have GEN := n2_; have BKB := m0_; clear n0_ n1_ n2_ m0_; clear hb hbox hg; have hczB_0 : w4.cell? ⟨gbB, 0, none⟩ = some (.int .i64 a0_0) := (blk_cell BKB.out 0).trans rfl; have hczB_1 : w4.cell? ⟨gbB, 1, none⟩ = some (.slice A0_1 l0_1.length c0_1) := (blk_cell BKB.out 1).trans rfl) | (go_at_call 25; refine (post_Is.calls k a0_0 A0_1 c0_1 l0_1 _ w4 (Kd.C_below HR.out HB.out) HC.out IS.out).mono ?_; rintro e w5 ⟨rfl, hb⟩; (try clear hczB_0 hczB_1); have n0_ := Aside0.mk (below_step HB.out hb); have m0_ := Aside0.mk (blk_below BKB.out hb); have m1_ := Aside0.mk (blk_below BKN.out hb); clear HB BKB BKN; have HB := n0_; have BKB := m0_; have BKN := m1_; clear n0_ m0_ m1_ hb; have hczB_0 : w5.cell? ⟨gbB, 0, none⟩ = some (.int .i64 a0_0) := (blk_cell BKB.out 0).trans rfl; have hczB_1 : w5.cell? ⟨gbB, 1, none⟩ = some (.slice A0_1 l0_1.length c0_1) := (blk_cell BKB.out 1).trans rfl; have HCON := Aside0.mk (ixfunc_Letter.calls (fun x => decide (x.f0 = a1)) 43 #[.pointer (some ⟨gbN, 0, none⟩)] eg A0_1 c0_1 l0_1 w5 (fun W x hb => post_find.one a1 gbN w5 (blk_lt BKN.out) ((blk_cell BKN.out 0).trans rfl) W x hb) (Kd.C_below HR.out HB.out))) | (go_at_call 42; refine HCON.out.mono ?_; rintro e w6 ⟨rfl, hb⟩; rw [Q.out]; have n0_ := Aside0.mk (below_step HB.out hb); clear HCON HB; have HB := n0_; clear n0_ hb))
      go_ret2
      exact ⟨rfl, HB.out⟩

/-! ### post_Take: function 13 -/
def post_Take.f (k : Nat) (a0_0 : Int) (l0_1 : List (S35)) (a1 : Int) : Option (Int × (List (S35)) × Int × Int × Int × ByteArray × Int) := (post_find.f k a0_0 l0_1 a1).bind fun bt160 => (if bt160.2 = 0 then (if 0 ≤ bt160.1 then (if bt160.1 < (l0_1.length : Int) then ((api_Letter_31.f l0_1).bind fun t164 => (if bt160.1 < (t164.length : Int) then (some (a0_0, (t164.eraseIdx (bt160.1 : Int).toNat), (rd_T35 l0_1 bt160.1).f0, (rd_T35 l0_1 bt160.1).f1, (rd_T35 l0_1 bt160.1).f2, (rd_T35 l0_1 bt160.1).f3, 0)) else (none))) else (none)) else (none)) else (some (0, ([] : List (S35)), 0, 0, 0, (⟨#[]⟩ : ByteArray), bt160.2)))
theorem post_Take.mono : ∀ a0 a1 a2 k, LeO (post_Take.f k a0 a1 a2) (post_Take.f (k + 1) a0 a1 a2) := by
  intro a0 a1 a2 k
  unfold post_Take.f
  repeat' first
      | (with_reducible exact post_find.mono _ _ _ _)
      | (with_reducible exact LeO.refl _)
      | (with_reducible exact LeO.none _)
      | (with_reducible refine LeO.ite ?_ ?_)
      | (with_reducible refine LeO.bind ?_ (fun _ => ?_))
      | exact post_find.mono _ _ _ _
      | exact LeO.none _
      | refine LeO.ite ?_ ?_
      | refine LeO.bind ?_ (fun _ => ?_)
set_option maxHeartbeats 8000000 in
set_option maxRecDepth 100000 in
theorem post_Take.calls (k : Nat) (a0_0 : Int) (A0_1 : Option Addr) (c0_1 : Nat) (l0_1 : List (S35)) (a1 : Int) (r1 : Int) (r2 : List (S35)) (r3 : Int) (r4 : Int) (r5 : Int) (r6 : ByteArray) (r7 : Int) (w : World) (hr0_1 : Kd.C k35 w A0_1 l0_1.length l0_1) (hc0_1 : l0_1.length ≤ c0_1) (h : post_Take.f k a0_0 l0_1 a1 = some (r1, r2, r3, r4, r5, r6, r7)) :
    Calls Try.prog 13 #[.agg #[.int .i64 a0_0, .slice A0_1 l0_1.length c0_1], .int .i64 a1] w fun e w' => ∃ v1_ : Value, e = .returned (.tuple #[.agg #[.int .i64 r1, v1_], .agg #[.int .i64 r3, .int .i64 r4, .int .i64 r5, .string r6], .int .i64 r7]) ∧ Kd.R k35 35 w' w.heap.size (fun _ => True) v1_ r2 ∧ Below w.heap.size w w' := by
  have hu24 := Try.underlying24
  have hu35 := Try.underlying35
  have HR0_1 := Aside0.mk hr0_1
  have HC0_1 := Aside0.mk hc0_1
  clear hr0_1 hc0_1
  have HB := Aside0.mk (Below.refl w.heap.size w)
  have H : ((post_find.f k a0_0 l0_1 a1).bind fun bt160 => (if bt160.2 = 0 then (if 0 ≤ bt160.1 then (if bt160.1 < (l0_1.length : Int) then ((api_Letter_31.f l0_1).bind fun t164 => (if bt160.1 < (t164.length : Int) then (some (a0_0, (t164.eraseIdx (bt160.1 : Int).toNat), (rd_T35 l0_1 bt160.1).f0, (rd_T35 l0_1 bt160.1).f1, (rd_T35 l0_1 bt160.1).f2, (rd_T35 l0_1 bt160.1).f3, 0)) else (none))) else (none)) else (none)) else (some (0, ([] : List (S35)), 0, 0, 0, (⟨#[]⟩ : ByteArray), bt160.2)))) = some (r1, r2, r3, r4, r5, r6, r7) := h
  clear h
  replace H := Option.bind_eq_some_iff.mp H
  obtain ⟨⟨t160, t161⟩, A30, H⟩ := H
  replace H : (if t161 = 0 then (if 0 ≤ t160 then (if t160 < (l0_1.length : Int) then ((api_Letter_31.f l0_1).bind fun t164 => (if t160 < (t164.length : Int) then (some (a0_0, (t164.eraseIdx (t160 : Int).toNat), (rd_T35 l0_1 t160).f0, (rd_T35 l0_1 t160).f1, (rd_T35 l0_1 t160).f2, (rd_T35 l0_1 t160).f3, 0)) else (none))) else (none)) else (none)) else (some (0, ([] : List (S35)), 0, 0, 0, (⟨#[]⟩ : ByteArray), t161))) = some (r1, r2, r3, r4, r5, r6, r7) := H
  have A3 := Aside0.mk A30
  clear A30
  by_cases c4 : t161 = 0
  · rw [if_pos c4] at H
    have c4b0 : (t161 == 0) = true := beq_iff_eq.mpr c4
    have c4b1 : (t161 != 0) = false := bne_eq_false_iff_eq.mpr c4
    clear c4
    by_cases c5 : 0 ≤ t160
    · rw [if_pos c5] at H
      have c5b0 : decide (0 ≤ t160) = true := decide_eq_true c5
      clear c5
      by_cases c6 : t160 < (l0_1.length : Int)
      · rw [if_pos c6] at H
        have c6b0 : decide (t160 < (l0_1.length : Int)) = true := decide_eq_true c6
        clear c6
        replace H := Option.bind_eq_some_iff.mp H
        obtain ⟨t164, A70, H⟩ := H
        replace H : (if t160 < (t164.length : Int) then (some (a0_0, (t164.eraseIdx (t160 : Int).toNat), (rd_T35 l0_1 t160).f0, (rd_T35 l0_1 t160).f1, (rd_T35 l0_1 t160).f2, (rd_T35 l0_1 t160).f3, 0)) else (none)) = some (r1, r2, r3, r4, r5, r6, r7) := H
        have A7 := Aside0.mk A70
        clear A70
        by_cases c8 : t160 < (t164.length : Int)
        · rw [if_pos c8] at H
          have c8b0 : decide (t160 < (t164.length : Int)) = true := decide_eq_true c8
          clear c8
          obtain ⟨y167, hy167⟩ : ∃ y_ : List (S35), y_ = (t164.eraseIdx (t160 : Int).toNat) := ⟨_, rfl⟩
          replace H : (some (a0_0, y167, (rd_T35 l0_1 t160).f0, (rd_T35 l0_1 t160).f1, (rd_T35 l0_1 t160).f2, (rd_T35 l0_1 t160).f3, 0)) = some (r1, r2, r3, r4, r5, r6, r7) := by first | (rw [hy167]; with_reducible exact H) | (have H2_ := (Option.bind_some _ _).symm.trans H; rw [hy167]; with_reducible exact H2_) | (have H2_ := (Option.bind_some _ _).symm.trans H; with_reducible exact H2_) | with_reducible exact H | (rw [hy167]; exact H) | exact H
          have Ny167 := Aside0.mk hy167
          clear hy167
          simp only [Option.some.injEq, Prod.mk.injEq] at H
          obtain ⟨rfl, rfl, rfl, rfl, rfl, rfl, rfl⟩ := H
          go_enter Try.func13, Try.ntmps13
          try go_wp2_with (first | ((with_reducible refine gate_dst (N := 2) rfl ?_); refine box_event ?hg (N := 2) ?hd (cs := #[.int .i64 a0_0, .slice A0_1 l0_1.length c0_1]) (t := 24) ?hr ?_; (case hd => rfl); (case hg => rfl); (case hr => first | (go_simp; done) | (go_simp; rfl)); intro gb157 hg w9 hbox hb; have BK157 := Aside0.mk (hbox); have GW157 := Aside0.mk ((by rw [hg]; exact (below_size HB.out) : w.heap.size ≤ gb157)); have GE157 := Aside0.mk ((by rw [hg]; exact (below_size HB.out) : w.heap.size ≤ gb157)); replace HB := Aside0.mk (below_step HB.out hb); clear hb hbox hg) | ((with_reducible refine gate_dst (N := 4) rfl ?_); refine box_event ?hg (N := 4) ?hd (cs := #[.int .i64 0, .slice none 0 0]) (t := 24) ?hr ?_; (case hd => rfl); (case hg => rfl); (case hr => first | (go_simp; done) | (go_simp; rfl)); intro gb158 hg w10 hbox hb; have BK158 := Aside0.mk (hbox); have GW158 := Aside0.mk ((by rw [hg]; exact (below_size (by repeat (with_reducible first | exact HB.out | apply pw_below_drewN | apply below_drew1 | refine below_set ?_ GE157.out))) : w.heap.size ≤ gb158)); have GE158 := Aside0.mk ((by rw [hg]; exact (below_size (by repeat (with_reducible first | exact HB.out | apply pw_below_drewN | apply below_drew1 | refine below_set ?_ GE157.out))) : w.heap.size ≤ gb158)); replace HB := Aside0.mk (below_step (by repeat (with_reducible first | exact HB.out | apply pw_below_drewN | apply below_drew1 | refine below_set ?_ GE157.out)) hb); have NB157_158 := Aside0.mk ((by rw [hg]; exact Nat.ne_of_lt (blk_lt BK157.out) : gb157 ≠ gb158)); have NB158_157 := Aside0.mk ((by rw [hg]; exact Nat.ne_of_gt (blk_lt BK157.out) : gb158 ≠ gb157)); replace BK157 := bl_ BK157 hb; clear hb hbox hg) | ((with_reducible refine gate_dst (N := 5) rfl ?_); refine box_event ?hg (N := 5) ?hd (cs := #[.int .i64 0, .int .i64 0, .int .i64 0, .string (⟨#[]⟩ : ByteArray)]) (t := 35) ?hr ?_; (case hd => rfl); (case hg => rfl); (case hr => first | (go_simp; done) | (go_simp; rfl)); intro gb159 hg w11 hbox hb; have BK159 := Aside0.mk (hbox); have GW159 := Aside0.mk ((by rw [hg]; exact (below_size (by repeat (with_reducible first | exact HB.out | apply pw_below_drewN | apply below_drew1 | refine below_set ?_ (Aside0.out (by assumption))))) : w.heap.size ≤ gb159)); have GE159 := Aside0.mk ((by rw [hg]; exact (below_size (by repeat (with_reducible first | exact HB.out | apply pw_below_drewN | apply below_drew1 | refine below_set ?_ (Aside0.out (by assumption))))) : w.heap.size ≤ gb159)); replace HB := Aside0.mk (below_step (by repeat (with_reducible first | exact HB.out | apply pw_below_drewN | apply below_drew1 | refine below_set ?_ (Aside0.out (by assumption)))) hb); have NB157_159 := Aside0.mk ((by rw [hg]; exact Nat.ne_of_lt (blk_lt BK157.out) : gb157 ≠ gb159)); have NB159_157 := Aside0.mk ((by rw [hg]; exact Nat.ne_of_gt (blk_lt BK157.out) : gb159 ≠ gb157)); replace BK157 := bl_ BK157 hb; have NB158_159 := Aside0.mk ((by rw [hg]; exact Nat.ne_of_lt (blk_lt BK158.out) : gb158 ≠ gb159)); have NB159_158 := Aside0.mk ((by rw [hg]; exact Nat.ne_of_gt (blk_lt BK158.out) : gb159 ≠ gb158)); replace BK158 := bl_ BK158 hb; clear hb hbox hg; have hnb12 := NB157_158.out; have hnc12 := NB158_157.out; have hnb13 := NB157_159.out; have hnc13 := NB159_157.out; have hcz14_0 : w11.cell? ⟨gb157, 0, none⟩ = some (.int .i64 a0_0) := (blk_cell BK157.out 0).trans rfl; have hcz14_1 : w11.cell? ⟨gb157, 1, none⟩ = some (.slice A0_1 l0_1.length c0_1) := (blk_cell BK157.out 1).trans rfl; have hfz14_0 := blk_frozen BK157.out 0; have hfz14_1 := blk_frozen BK157.out 1) | ((with_reducible refine gate_callee (f := 34) rfl ?_); refine goesL_ (some 13) rfl rfl Try.func34 (by kernel_rfl) rfl #[.agg #[.int .i64 a0_0, .slice A0_1 l0_1.length c0_1], .int .i64 a1] rfl (by (try simp only [List.map_toArray, List.map_cons, List.map_nil]); first | done | rfl | (simp only [List.length_drop, List.length_take]; rfl)) ?_; (with_reducible refine (post_find.calls k a0_0 _ _ l0_1 a1 t160 t161 _ ?side1 ?side2 A3.out).mono ?_); (case side1 => exact (Kd.C_below HR0_1.out HB.out)); (case side2 => exact HC0_1.out); rintro e w15 ⟨rfl, hb⟩; refine ⟨_, rfl, ?_⟩; replace BK157 := bl_ BK157 hb; replace BK158 := bl_ BK158 hb; replace BK159 := Aside0.mk (blk_below (g := gb159) (o := .cells #[.int .i64 0, .int .i64 0, .int .i64 0, .string (⟨#[]⟩ : ByteArray)] 35 (0, 0)) BK159.out hb); replace HB := Aside0.mk (below_step (by repeat (with_reducible first | exact HB.out | apply pw_below_drewN | apply below_drew1 | refine below_set ?_ (Aside0.out (by assumption)))) hb); (try clear hb); (try clear hb2); (try clear hk); (try clear hi); have hcz16_0 : w15.cell? ⟨gb157, 0, none⟩ = some (.int .i64 a0_0) := (blk_cell BK157.out 0).trans rfl; have hcz16_1 : w15.cell? ⟨gb157, 1, none⟩ = some (.slice A0_1 l0_1.length c0_1) := (blk_cell BK157.out 1).trans rfl; have hfz16_0 := blk_frozen BK157.out 0; have hfz16_1 := blk_frozen BK157.out 1; have p162 : 0 ≤ (t160 : Int) := of_decide_eq_true (by first | (with_reducible assumption) | assumption); have q162 : t160 < (l0_1.length : Int) := of_decide_eq_true (by first | (with_reducible assumption) | assumption); obtain ⟨ad162, e162, hx162_0, hx162_1, hx162_2, hx162_3⟩ := at_T35 HR0_1.out t160 p162 q162; cases e162; replace hx162_0 := (HB.out.cell (World.block_lt_of_cell? w _ hx162_0)).trans hx162_0; replace hx162_1 := (HB.out.cell (World.block_lt_of_cell? w _ hx162_1)).trans hx162_1; replace hx162_2 := (HB.out.cell (World.block_lt_of_cell? w _ hx162_2)).trans hx162_2; replace hx162_3 := (HB.out.cell (World.block_lt_of_cell? w _ hx162_3)).trans hx162_3; replace p162 := eq_true p162; replace q162 := eq_true q162) | ((with_reducible refine gate_dst (N := 9) rfl ?_); refine box_event ?hg (N := 9) ?hd (cs := #[.int .i64 0, .int .i64 0, .int .i64 0, .string (⟨#[]⟩ : ByteArray)]) (t := 35) ?hr ?_; (case hd => rfl); (case hg => rfl); (case hr => first | (go_simp; done) | (go_simp; rfl)); intro gb163 hg w17 hbox hb; have BK163 := Aside0.mk (hbox); have GW163 := Aside0.mk ((by rw [hg]; exact (below_size (by repeat (with_reducible first | exact HB.out | apply pw_below_drewN | apply below_drew1 | refine below_set ?_ (Aside0.out (by assumption))))) : w.heap.size ≤ gb163)); have GE163 := Aside0.mk ((by rw [hg]; exact (below_size (by repeat (with_reducible first | exact HB.out | apply pw_below_drewN | apply below_drew1 | refine below_set ?_ (Aside0.out (by assumption))))) : w.heap.size ≤ gb163)); replace HB := Aside0.mk (below_step (by repeat (with_reducible first | exact HB.out | apply pw_below_drewN | apply below_drew1 | refine below_set ?_ (Aside0.out (by assumption)))) hb); have NB157_163 := Aside0.mk ((by rw [hg]; exact Nat.ne_of_lt (blk_lt BK157.out) : gb157 ≠ gb163)); have NB163_157 := Aside0.mk ((by rw [hg]; exact Nat.ne_of_gt (blk_lt BK157.out) : gb163 ≠ gb157)); replace BK157 := bl_ BK157 hb; have NB158_163 := Aside0.mk ((by rw [hg]; exact Nat.ne_of_lt (blk_lt BK158.out) : gb158 ≠ gb163)); have NB163_158 := Aside0.mk ((by rw [hg]; exact Nat.ne_of_gt (blk_lt BK158.out) : gb163 ≠ gb158)); replace BK158 := bl_ BK158 hb; have NB159_163 := Aside0.mk ((by rw [hg]; exact Nat.ne_of_lt (blk_lt (g := gb159) (o := .cells #[.int .i64 0, .int .i64 0, .int .i64 0, .string (⟨#[]⟩ : ByteArray)] 35 (0, 0)) BK159.out) : gb159 ≠ gb163)); have NB163_159 := Aside0.mk ((by rw [hg]; exact Nat.ne_of_gt (blk_lt (g := gb159) (o := .cells #[.int .i64 0, .int .i64 0, .int .i64 0, .string (⟨#[]⟩ : ByteArray)] 35 (0, 0)) BK159.out) : gb163 ≠ gb159)); replace BK159 := Aside0.mk (blk_below (g := gb159) (o := .cells #[.int .i64 0, .int .i64 0, .int .i64 0, .string (⟨#[]⟩ : ByteArray)] 35 (0, 0)) BK159.out hb); clear hb hbox hg; have hnb18 := NB163_157.out; have hnc18 := NB157_163.out; have hnb19 := NB163_158.out; have hnc19 := NB158_163.out; have hnb20 := NB163_159.out; have hnc20 := NB159_163.out; have hcz21_0 : w17.cell? ⟨gb163, 0, none⟩ = some (.int .i64 0) := (blk_cell BK163.out 0).trans rfl; have hcz21_1 : w17.cell? ⟨gb163, 1, none⟩ = some (.int .i64 0) := (blk_cell BK163.out 1).trans rfl; have hcz21_2 : w17.cell? ⟨gb163, 2, none⟩ = some (.int .i64 0) := (blk_cell BK163.out 2).trans rfl; have hcz21_3 : w17.cell? ⟨gb163, 3, none⟩ = some (.string (⟨#[]⟩ : ByteArray)) := (blk_cell BK163.out 3).trans rfl; have hfz21_0 := blk_frozen BK163.out 0; have hfz21_1 := blk_frozen BK163.out 1; have hfz21_2 := blk_frozen BK163.out 2; have hfz21_3 := blk_frozen BK163.out 3; have hcz22_0 : w17.cell? ⟨gb157, 0, none⟩ = some (.int .i64 a0_0) := (blk_cell BK157.out 0).trans rfl; have hcz22_1 : w17.cell? ⟨gb157, 1, none⟩ = some (.slice (some ad162) l0_1.length c0_1) := (blk_cell BK157.out 1).trans rfl; have hfz22_0 := blk_frozen BK157.out 0; have hfz22_1 := blk_frozen BK157.out 1) | ((with_reducible refine gate_callee (f := 31) rfl ?_); refine goesL_ (some 28) rfl rfl Try.func31 (by kernel_rfl) rfl #[.slice (some ad162) l0_1.length c0_1] rfl (by (try simp only [List.map_toArray, List.map_cons, List.map_nil]); first | done | rfl | (simp only [List.length_drop, List.length_take]; rfl)) ?_; (with_reducible refine (api_Letter_31.calls _ _ l0_1 t164 _ ?side1 ?side2 A7.out).mono ?_); (case side1 => exact Kd.C_below HR0_1.out (by repeat (with_reducible first | exact HB.out | apply pw_below_drewN | apply below_drew1 | refine below_set ?_ (Aside0.out (by assumption))))); (case side2 => exact HC0_1.out); rintro e w23 ⟨v165, rfl, ho0, hb⟩; refine ⟨_, rfl, ?_⟩; have HO166 := Aside0.mk (Kd.R_lower (Kd.R_newB (Kd.R_newB ho0 (g := gb159) (o := .cells #[.int .i64 0, .int .i64 0, .int .i64 0, .string (⟨#[]⟩ : ByteArray)] 35 (0, 0)) (by refine blk_far ?_ NB159_163.out _; refine blk_far ?_ NB159_163.out _; refine blk_far ?_ NB159_163.out _; refine blk_far ?_ NB159_163.out _; exact BK159.out)) (g := gb163) (o := .cells #[.int .i64 ((rd_T35 l0_1 t160).f0), .int .i64 ((rd_T35 l0_1 t160).f1), .int .i64 ((rd_T35 l0_1 t160).f2), .string ((rd_T35 l0_1 t160).f3)] 35 (0, 0)) (by refine blk_put (cs := #[.int .i64 ((rd_T35 l0_1 t160).f0), .int .i64 ((rd_T35 l0_1 t160).f1), .int .i64 ((rd_T35 l0_1 t160).f2), .string (⟨#[]⟩ : ByteArray)]) ?_ 3 _ rfl; refine blk_put (cs := #[.int .i64 ((rd_T35 l0_1 t160).f0), .int .i64 ((rd_T35 l0_1 t160).f1), .int .i64 0, .string (⟨#[]⟩ : ByteArray)]) ?_ 2 _ rfl; refine blk_put (cs := #[.int .i64 ((rd_T35 l0_1 t160).f0), .int .i64 0, .int .i64 0, .string (⟨#[]⟩ : ByteArray)]) ?_ 1 _ rfl; refine blk_put (cs := #[.int .i64 0, .int .i64 0, .int .i64 0, .string (⟨#[]⟩ : ByteArray)]) ?_ 0 _ rfl; exact BK163.out)) (below_size (by repeat (with_reducible first | exact HB.out | apply pw_below_drewN | apply below_drew1 | refine below_set ?_ (Aside0.out (by assumption)))))); replace BK157 := Aside0.mk (blk_below (g := gb157) (o := .cells #[.int .i64 a0_0, .slice (some ad162) l0_1.length c0_1] 24 (0, 0)) (by refine blk_far ?_ NB157_163.out _; refine blk_far ?_ NB157_163.out _; refine blk_far ?_ NB157_163.out _; refine blk_far ?_ NB157_163.out _; exact BK157.out) hb); replace BK158 := Aside0.mk (blk_below (g := gb158) (o := .cells #[.int .i64 0, .slice none 0 0] 24 (0, 0)) (by refine blk_far ?_ NB158_163.out _; refine blk_far ?_ NB158_163.out _; refine blk_far ?_ NB158_163.out _; refine blk_far ?_ NB158_163.out _; exact BK158.out) hb); replace BK159 := Aside0.mk (blk_below (g := gb159) (o := .cells #[.int .i64 0, .int .i64 0, .int .i64 0, .string (⟨#[]⟩ : ByteArray)] 35 (0, 0)) (by refine blk_far ?_ NB159_163.out _; refine blk_far ?_ NB159_163.out _; refine blk_far ?_ NB159_163.out _; refine blk_far ?_ NB159_163.out _; exact BK159.out) hb); replace BK163 := Aside0.mk (blk_below (g := gb163) (o := .cells #[.int .i64 ((rd_T35 l0_1 t160).f0), .int .i64 ((rd_T35 l0_1 t160).f1), .int .i64 ((rd_T35 l0_1 t160).f2), .string ((rd_T35 l0_1 t160).f3)] 35 (0, 0)) (by refine blk_put (cs := #[.int .i64 ((rd_T35 l0_1 t160).f0), .int .i64 ((rd_T35 l0_1 t160).f1), .int .i64 ((rd_T35 l0_1 t160).f2), .string (⟨#[]⟩ : ByteArray)]) ?_ 3 _ rfl; refine blk_put (cs := #[.int .i64 ((rd_T35 l0_1 t160).f0), .int .i64 ((rd_T35 l0_1 t160).f1), .int .i64 0, .string (⟨#[]⟩ : ByteArray)]) ?_ 2 _ rfl; refine blk_put (cs := #[.int .i64 ((rd_T35 l0_1 t160).f0), .int .i64 0, .int .i64 0, .string (⟨#[]⟩ : ByteArray)]) ?_ 1 _ rfl; refine blk_put (cs := #[.int .i64 0, .int .i64 0, .int .i64 0, .string (⟨#[]⟩ : ByteArray)]) ?_ 0 _ rfl; exact BK163.out) hb); replace HB := Aside0.mk (below_step (by repeat (with_reducible first | exact HB.out | apply pw_below_drewN | apply below_drew1 | refine below_set ?_ (Aside0.out (by assumption)))) hb); (try clear hb); (try clear hb2); (try clear hk); (try clear hi); (try clear ho0); have n_ := Aside0.mk (Kd.R_mono (ok' := (fun k_ => k_ ≠ gb159 ∧ k_ ≠ gb163)) HO166.out (fun k_ hk => ⟨hk.1.2, hk.2⟩)); clear HO166; have HO166 := n_; clear n_; obtain ⟨Ao26, co26, eo26⟩ := Kd.R_slice HO166.out; subst eo26) | (go_at_call 35; have hj_ : 0 ≤ (t160 : Int) := of_decide_eq_true (by first | (with_reducible assumption) | assumption); have hl_ : (t160 : Int) < (t164.length : Int) := of_decide_eq_true (by first | (with_reducible assumption) | assumption); obtain ⟨gd25, cap_, ev_, _⟩ := Kd.R_form HO166.out (by omega); injection ev_ with ea_ eb_ ec_; (try clear eb_); (try subst ec_); (first | subst ea_ | (injection ea_ with ea_; subst ea_)); refine (delete_Letter_R.calls (t160 : Int) (HO166.out) hj_ hl_ (by repeat (with_reducible first | exact HB.out | apply pw_below_drewN | apply below_drew1 | refine below_set ?_ (Aside0.out (by assumption)))) (below_size (by repeat (with_reducible first | exact HB.out | apply pw_below_drewN | apply below_drew1 | refine below_set ?_ (Aside0.out (by assumption)))))).mono ?_; rintro e w24 ⟨rfl, ho, hb, hg⟩; rw [← Ny167.out] at ho; have hn_ : t164.length - 1 = y167.length := (by have := (Kd.R_reads' ho).1; omega); rw [hn_] at ho ⊢; clear hn_ hj_ hl_; replace BK157 := Aside0.mk (blk_grown (g := gb157) (o := .cells #[.int .i64 a0_0, .slice (some ad162) l0_1.length c0_1] 24 (0, 0)) BK157.out hg (Kd.R_ne HO166.out BK157.out (by decide))); replace BK158 := Aside0.mk (blk_grown (g := gb158) (o := .cells #[.int .i64 0, .slice none 0 0] 24 (0, 0)) BK158.out hg (Kd.R_ne HO166.out BK158.out (by decide))); replace BK159 := Aside0.mk (blk_grown (g := gb159) (o := .cells #[.int .i64 0, .int .i64 0, .int .i64 0, .string (⟨#[]⟩ : ByteArray)] 35 (0, 0)) BK159.out hg (Kd.R_away HO166.out (fun _ hk => hk.1))); replace BK163 := Aside0.mk (blk_grown (g := gb163) (o := .cells #[.int .i64 ((rd_T35 l0_1 t160).f0), .int .i64 ((rd_T35 l0_1 t160).f1), .int .i64 ((rd_T35 l0_1 t160).f2), .string ((rd_T35 l0_1 t160).f3)] 35 (0, 0)) BK163.out hg (Kd.R_away HO166.out (fun _ hk => hk.2))); replace HO166 := Aside0.mk (ho); replace HB := Aside0.mk (hb); clear ho hb hg; have hcz27_0 : w24.cell? ⟨gb157, 0, none⟩ = some (.int .i64 a0_0) := (blk_cell BK157.out 0).trans rfl; have hcz27_1 : w24.cell? ⟨gb157, 1, none⟩ = some (.slice (some ad162) l0_1.length c0_1) := (blk_cell BK157.out 1).trans rfl; have hfz27_0 := blk_frozen BK157.out 0; have hfz27_1 := blk_frozen BK157.out 1))
          have n0_ : Aside0 (Kd.R k35 35 (w24.setCell ⟨gb157, 1, none⟩ (.slice (some ⟨gd25, 0, none⟩) y167.length co26)) w.heap.size (fun k_ => k_ ≠ gb159 ∧ k_ ≠ gb163) (.slice (some ⟨gd25, 0, none⟩) y167.length co26) y167) := ⟨by (with_reducible repeat (first | apply Kd.R_alloc | apply Kd.R_drewN | apply Kd.R_drew)); exact Kd.R_mono (Kd.R_far (p := ⟨gb157, 1, none⟩) (Kd.R_types HO166.out BK157.out (by decide)) (fun _ hk => hk.2) (.slice (some ⟨gd25, 0, none⟩) y167.length co26)) (fun _ hk => ⟨hk.1.1, hk.1.2⟩)⟩
          have n1_ : Aside0 ((w24.setCell ⟨gb157, 1, none⟩ (.slice (some ⟨gd25, 0, none⟩) y167.length co26)).heap[gb157]? = some (.cells #[.int .i64 a0_0, .slice (some ⟨gd25, 0, none⟩) y167.length co26] 24 (0, 0))) := ⟨by refine blk_put (cs := #[.int .i64 a0_0, .slice (some ad162) l0_1.length c0_1]) ?_ 1 _ rfl; exact BK157.out⟩
          have n2_ : Aside0 ((w24.setCell ⟨gb157, 1, none⟩ (.slice (some ⟨gd25, 0, none⟩) y167.length co26)).heap[gb158]? = some (.cells #[.int .i64 0, .slice none 0 0] 24 (0, 0))) := ⟨by refine blk_far ?_ NB158_157.out _; exact BK158.out⟩
          have n3_ : Aside0 ((w24.setCell ⟨gb157, 1, none⟩ (.slice (some ⟨gd25, 0, none⟩) y167.length co26)).heap[gb159]? = some (.cells #[.int .i64 0, .int .i64 0, .int .i64 0, .string (⟨#[]⟩ : ByteArray)] 35 (0, 0))) := ⟨by refine blk_far ?_ NB159_157.out _; exact BK159.out⟩
          have n4_ : Aside0 ((w24.setCell ⟨gb157, 1, none⟩ (.slice (some ⟨gd25, 0, none⟩) y167.length co26)).heap[gb163]? = some (.cells #[.int .i64 ((rd_T35 l0_1 t160).f0), .int .i64 ((rd_T35 l0_1 t160).f1), .int .i64 ((rd_T35 l0_1 t160).f2), .string ((rd_T35 l0_1 t160).f3)] 35 (0, 0))) := ⟨by refine blk_far ?_ NB163_157.out _; exact BK163.out⟩
          have n5_ : Aside0 (Below w.heap.size w (w24.setCell ⟨gb157, 1, none⟩ (.slice (some ⟨gd25, 0, none⟩) y167.length co26))) := ⟨by repeat (with_reducible first | exact HB.out | apply pw_below_drewN | apply below_drew1 | refine below_set ?_ (Aside0.out (by assumption)))⟩
          (try clear HO166)
          (try clear BK157)
          (try clear BK158)
          (try clear BK159)
          (try clear BK163)
          (try clear HB)
          generalize (w24.setCell ⟨gb157, 1, none⟩ (.slice (some ⟨gd25, 0, none⟩) y167.length co26)) = w28 at n0_ n1_ n2_ n3_ n4_ n5_ ⊢
          have HO166 := n0_
          have BK157 := n1_
          have BK158 := n2_
          have BK159 := n3_
          have BK163 := n4_
          have HB := n5_
          clear n0_ n1_ n2_ n3_ n4_ n5_
          replace HO166 := Aside0.mk (Kd.R_drew HO166.out)
          replace BK157 := Aside0.mk (blk_drew BK157.out)
          replace BK158 := Aside0.mk (blk_drew BK158.out)
          replace BK159 := Aside0.mk (blk_drew BK159.out)
          replace BK163 := Aside0.mk (blk_drew BK163.out)
          replace HB := Aside0.mk (below_drew1 HB.out)
          refine start_ (n := 5) (S := fun w' => w'.cell? ⟨gb157, 0, none⟩ = some (.int .i64 a0_0) ∧ w'.cell? ⟨gb157, 1, none⟩ = some (.slice (some ⟨gd25, 0, none⟩) y167.length co26) ∧ w'.cell? ⟨gb163, 0, none⟩ = some (.int .i64 ((rd_T35 l0_1 t160).f0)) ∧ w'.cell? ⟨gb163, 1, none⟩ = some (.int .i64 ((rd_T35 l0_1 t160).f1)) ∧ w'.cell? ⟨gb163, 2, none⟩ = some (.int .i64 ((rd_T35 l0_1 t160).f2)) ∧ w'.cell? ⟨gb163, 3, none⟩ = some (.string ((rd_T35 l0_1 t160).f3))) (ds := []) #[false, false, false, false, false] (by kernel_rfl) rfl rfl ⟨(blk_cell BK157.out 0).trans rfl, (blk_cell BK157.out 1).trans rfl, (blk_cell BK163.out 0).trans rfl, (blk_cell BK163.out 1).trans rfl, (blk_cell BK163.out 2).trans rfl, (blk_cell BK163.out 3).trans rfl⟩ (fun hHeld => ?_)
          generalize w28.drew = w29 at HO166 BK157 BK158 BK159 BK163 HB hHeld ⊢
          refine take_ (i := 0) (N := some 34) (v := ?_) (a' := ?_) #[true, false, false, false, false] rfl rfl (by kernel_rfl) (fun _ _ _ h => h) (Or.inl ⟨by rfl, ?_⟩) hHeld ?_ ?_
          rotate_left
          · rintro w' ⟨s0, s1, s2, s3, s4, s5⟩
            go_simp
            with_reducible rfl
          rotate_left; (simp only [Act.put, List.setIfInBounds_toArray, List.set_cons_zero, List.set_cons_succ, i64_w, i32_w]; rfl)
          refine take_ (i := 1) (N := some 35) (v := ?_) (a' := ?_) #[true, true, false, false, false] rfl rfl (by kernel_rfl) (fun _ _ _ h => h) (Or.inl ⟨by rfl, ?_⟩) hHeld ?_ ?_
          rotate_left
          · rintro w' ⟨s0, s1, s2, s3, s4, s5⟩
            go_simp
            with_reducible rfl
          rotate_left; (simp only [Act.put, List.setIfInBounds_toArray, List.set_cons_zero, List.set_cons_succ, i64_w, i32_w]; rfl)
          refine one_ (i := 2) (N := none) #[true, true, true, false, false] rfl rfl (by kernel_rfl) (by decide) (fun K hK => ?_)
          have hs30 : w29.cell? ⟨gb158, 0, none⟩ = some (.int .i64 0) := (blk_cell BK158.out 0).trans rfl
          have hfs30 := blk_frozen BK158.out 0
          have hns30_0 := NB157_158.out
          have hns30_2 := NB159_158.out
          have hns30_3 := NB163_158.out
          have hms30_0 := NB158_157.out
          have hms30_2 := NB158_159.out
          have hms30_3 := NB158_163.out
          have hs31 : w29.cell? ⟨gb158, 1, none⟩ = some (.slice none 0 0) := (blk_cell BK158.out 1).trans rfl
          have hfs31 := blk_frozen BK158.out 1
          have hns31_0 := NB157_158.out
          have hns31_2 := NB159_158.out
          have hns31_3 := NB163_158.out
          have hms31_0 := NB158_157.out
          have hms31_2 := NB158_159.out
          have hms31_3 := NB158_163.out
          refine skip_ (w1 := ?_) (by rfl) rfl ?_ ?_
          rotate_left
          · go_simp
            rfl
          refine hK.out _ _ ⟨((cell_far (p := ⟨gb158, _, none⟩) NB157_158.out _).trans (((cell_far (p := ⟨gb158, _, none⟩) NB157_158.out _).trans (hHeld.1)))), ((cell_far (p := ⟨gb158, _, none⟩) NB157_158.out _).trans (((cell_far (p := ⟨gb158, _, none⟩) NB157_158.out _).trans (hHeld.2.1)))), ((cell_far (p := ⟨gb158, _, none⟩) NB163_158.out _).trans (((cell_far (p := ⟨gb158, _, none⟩) NB163_158.out _).trans (hHeld.2.2.1)))), ((cell_far (p := ⟨gb158, _, none⟩) NB163_158.out _).trans (((cell_far (p := ⟨gb158, _, none⟩) NB163_158.out _).trans (hHeld.2.2.2.1)))), ((cell_far (p := ⟨gb158, _, none⟩) NB163_158.out _).trans (((cell_far (p := ⟨gb158, _, none⟩) NB163_158.out _).trans (hHeld.2.2.2.2.1)))), ((cell_far (p := ⟨gb158, _, none⟩) NB163_158.out _).trans (((cell_far (p := ⟨gb158, _, none⟩) NB163_158.out _).trans (hHeld.2.2.2.2.2))))⟩ (fun hHeld => ?_)
          clear hK K
          refine one_ (i := 3) (N := none) #[true, true, true, true, false] rfl rfl (by kernel_rfl) (by decide) (fun K hK => ?_)
          have hs32 : w29.cell? ⟨gb159, 0, none⟩ = some (.int .i64 0) := (blk_cell BK159.out 0).trans rfl
          have hfs32 := blk_frozen BK159.out 0
          have hns32_0 := NB157_159.out
          have hns32_1 := NB158_159.out
          have hns32_3 := NB163_159.out
          have hms32_0 := NB159_157.out
          have hms32_1 := NB159_158.out
          have hms32_3 := NB159_163.out
          have hs33 : w29.cell? ⟨gb159, 1, none⟩ = some (.int .i64 0) := (blk_cell BK159.out 1).trans rfl
          have hfs33 := blk_frozen BK159.out 1
          have hns33_0 := NB157_159.out
          have hns33_1 := NB158_159.out
          have hns33_3 := NB163_159.out
          have hms33_0 := NB159_157.out
          have hms33_1 := NB159_158.out
          have hms33_3 := NB159_163.out
          have hs34 : w29.cell? ⟨gb159, 2, none⟩ = some (.int .i64 0) := (blk_cell BK159.out 2).trans rfl
          have hfs34 := blk_frozen BK159.out 2
          have hns34_0 := NB157_159.out
          have hns34_1 := NB158_159.out
          have hns34_3 := NB163_159.out
          have hms34_0 := NB159_157.out
          have hms34_1 := NB159_158.out
          have hms34_3 := NB159_163.out
          have hs35 : w29.cell? ⟨gb159, 3, none⟩ = some (.string (⟨#[]⟩ : ByteArray)) := (blk_cell BK159.out 3).trans rfl
          have hfs35 := blk_frozen BK159.out 3
          have hns35_0 := NB157_159.out
          have hns35_1 := NB158_159.out
          have hns35_3 := NB163_159.out
          have hms35_0 := NB159_157.out
          have hms35_1 := NB159_158.out
          have hms35_3 := NB159_163.out
          refine skip_ (w1 := ?_) (by rfl) rfl ?_ ?_
          rotate_left
          · go_simp
            rfl
          refine hK.out _ _ ⟨((cell_far (p := ⟨gb159, _, none⟩) NB157_159.out _).trans (((cell_far (p := ⟨gb159, _, none⟩) NB157_159.out _).trans (((cell_far (p := ⟨gb159, _, none⟩) NB157_159.out _).trans (((cell_far (p := ⟨gb159, _, none⟩) NB157_159.out _).trans (hHeld.1)))))))), ((cell_far (p := ⟨gb159, _, none⟩) NB157_159.out _).trans (((cell_far (p := ⟨gb159, _, none⟩) NB157_159.out _).trans (((cell_far (p := ⟨gb159, _, none⟩) NB157_159.out _).trans (((cell_far (p := ⟨gb159, _, none⟩) NB157_159.out _).trans (hHeld.2.1)))))))), ((cell_far (p := ⟨gb159, _, none⟩) NB163_159.out _).trans (((cell_far (p := ⟨gb159, _, none⟩) NB163_159.out _).trans (((cell_far (p := ⟨gb159, _, none⟩) NB163_159.out _).trans (((cell_far (p := ⟨gb159, _, none⟩) NB163_159.out _).trans (hHeld.2.2.1)))))))), ((cell_far (p := ⟨gb159, _, none⟩) NB163_159.out _).trans (((cell_far (p := ⟨gb159, _, none⟩) NB163_159.out _).trans (((cell_far (p := ⟨gb159, _, none⟩) NB163_159.out _).trans (((cell_far (p := ⟨gb159, _, none⟩) NB163_159.out _).trans (hHeld.2.2.2.1)))))))), ((cell_far (p := ⟨gb159, _, none⟩) NB163_159.out _).trans (((cell_far (p := ⟨gb159, _, none⟩) NB163_159.out _).trans (((cell_far (p := ⟨gb159, _, none⟩) NB163_159.out _).trans (((cell_far (p := ⟨gb159, _, none⟩) NB163_159.out _).trans (hHeld.2.2.2.2.1)))))))), ((cell_far (p := ⟨gb159, _, none⟩) NB163_159.out _).trans (((cell_far (p := ⟨gb159, _, none⟩) NB163_159.out _).trans (((cell_far (p := ⟨gb159, _, none⟩) NB163_159.out _).trans (((cell_far (p := ⟨gb159, _, none⟩) NB163_159.out _).trans (hHeld.2.2.2.2.2))))))))⟩ (fun hHeld => ?_)
          clear hK K
          refine pure_ (i := 4) (N := some 6) (v := ?_) (a' := ?_) #[true, true, true, true, true] rfl rfl (by kernel_rfl) (fun _ _ _ h => h) (Or.inl ⟨by rfl, ?_⟩) ?_ ?_
          rotate_left
          · intro w'
            go_simp
            with_reducible rfl
          rotate_left; (simp only [Act.put, List.setIfInBounds_toArray, List.set_cons_zero, List.set_cons_succ, i64_w, i32_w]; rfl)
          refine done_ (by kernel_rfl) ?_
          try go_wp2
          refine bodyPost_ret (results_list (rs := [.cell 4 24, .cell 5 35, .tmp 6]) rfl (by simp) (.cell gb158 24 #[.int .i64 a0_0, .slice (some ⟨gd25, 0, none⟩) y167.length co26] (0, 0) _ rfl (by refine blk_far ?_ NB158_159.out _; refine blk_far ?_ NB158_159.out _; refine blk_far ?_ NB158_159.out _; refine blk_far ?_ NB158_159.out _; refine blk_put (cs := #[.int .i64 a0_0, .slice none 0 0]) ?_ 1 _ rfl; refine blk_put (cs := #[.int .i64 0, .slice none 0 0]) ?_ 0 _ rfl; exact BK158.out) Try.underlying24 rfl (by kernel_rfl) (.cell gb159 35 #[.int .i64 ((rd_T35 l0_1 t160).f0), .int .i64 ((rd_T35 l0_1 t160).f1), .int .i64 ((rd_T35 l0_1 t160).f2), .string ((rd_T35 l0_1 t160).f3)] (0, 0) _ rfl (by refine blk_put (cs := #[.int .i64 ((rd_T35 l0_1 t160).f0), .int .i64 ((rd_T35 l0_1 t160).f1), .int .i64 ((rd_T35 l0_1 t160).f2), .string (⟨#[]⟩ : ByteArray)]) ?_ 3 _ rfl; refine blk_put (cs := #[.int .i64 ((rd_T35 l0_1 t160).f0), .int .i64 ((rd_T35 l0_1 t160).f1), .int .i64 0, .string (⟨#[]⟩ : ByteArray)]) ?_ 2 _ rfl; refine blk_put (cs := #[.int .i64 ((rd_T35 l0_1 t160).f0), .int .i64 0, .int .i64 0, .string (⟨#[]⟩ : ByteArray)]) ?_ 1 _ rfl; refine blk_put (cs := #[.int .i64 0, .int .i64 0, .int .i64 0, .string (⟨#[]⟩ : ByteArray)]) ?_ 0 _ rfl; refine blk_far ?_ NB159_158.out _; refine blk_far ?_ NB159_158.out _; exact BK159.out) Try.underlying35 rfl (by kernel_rfl) (.tmp .nil)))) rfl ?_
          exact ⟨_, by first | rfl | (simp [errW_none, errW_some] <;> rfl) | (simp [*, errW_none, errW_some] <;> rfl), by (with_reducible repeat (first | apply Kd.R_alloc | apply Kd.R_drewN | apply Kd.R_drew)); exact Kd.R_mono (rf4 (rf2 (Kd.R_mono (Kd.R_types HO166.out BK158.out (by decide)) (fun k_ hk => (⟨hk, hk.1.1⟩ : _ ∧ k_ ≠ gb159))) (fun _ hk => hk.1.2) (.int .i64 a0_0) (.slice (some ⟨gd25, 0, none⟩) y167.length co26)) (fun _ hk => hk.2) (.int .i64 ((rd_T35 l0_1 t160).f0)) (.int .i64 ((rd_T35 l0_1 t160).f1)) (.int .i64 ((rd_T35 l0_1 t160).f2)) (.string ((rd_T35 l0_1 t160).f3))) (fun _ hk => trivial), by repeat (with_reducible first | exact HB.out | apply pw_below_drewN | apply below_drew1 | refine below_set ?_ (Aside0.out (by assumption)))⟩
        · rw [if_neg c8] at H
          exact absurd H (by simp)
      · rw [if_neg c6] at H
        exact absurd H (by simp)
    · rw [if_neg c5] at H
      exact absurd H (by simp)
  · rw [if_neg c4] at H
    have c4b0 : (t161 == 0) = false := beq_eq_false_iff_ne.mpr c4
    have c4b1 : (t161 != 0) = true := bne_iff_ne.mpr c4
    simp only [Option.some.injEq, Prod.mk.injEq] at H
    obtain ⟨rfl, rfl, rfl, rfl, rfl, rfl, rfl⟩ := H
    go_enter Try.func13, Try.ntmps13
    go_wp2_with (first | ((with_reducible refine gate_dst (N := 2) rfl ?_); refine box_event ?hg (N := 2) ?hd (cs := #[.int .i64 a0_0, .slice A0_1 l0_1.length c0_1]) (t := 24) ?hr ?_; (case hd => rfl); (case hg => rfl); (case hr => first | (go_simp; done) | (go_simp; rfl)); intro gb157 hg w36 hbox hb; have BK157 := Aside0.mk (hbox); have GW157 := Aside0.mk ((by rw [hg]; exact (below_size HB.out) : w.heap.size ≤ gb157)); have GE157 := Aside0.mk ((by rw [hg]; exact (below_size HB.out) : w.heap.size ≤ gb157)); replace HB := Aside0.mk (below_step HB.out hb); clear hb hbox hg) | ((with_reducible refine gate_dst (N := 4) rfl ?_); refine box_event ?hg (N := 4) ?hd (cs := #[.int .i64 0, .slice none 0 0]) (t := 24) ?hr ?_; (case hd => rfl); (case hg => rfl); (case hr => first | (go_simp; done) | (go_simp; rfl)); intro gb158 hg w37 hbox hb; have BK158 := Aside0.mk (hbox); have GW158 := Aside0.mk ((by rw [hg]; exact (below_size (by repeat (with_reducible first | exact HB.out | apply pw_below_drewN | apply below_drew1 | refine below_set ?_ GE157.out))) : w.heap.size ≤ gb158)); have GE158 := Aside0.mk ((by rw [hg]; exact (below_size (by repeat (with_reducible first | exact HB.out | apply pw_below_drewN | apply below_drew1 | refine below_set ?_ GE157.out))) : w.heap.size ≤ gb158)); replace HB := Aside0.mk (below_step (by repeat (with_reducible first | exact HB.out | apply pw_below_drewN | apply below_drew1 | refine below_set ?_ GE157.out)) hb); have NB157_158 := Aside0.mk ((by rw [hg]; exact Nat.ne_of_lt (blk_lt BK157.out) : gb157 ≠ gb158)); have NB158_157 := Aside0.mk ((by rw [hg]; exact Nat.ne_of_gt (blk_lt BK157.out) : gb158 ≠ gb157)); replace BK157 := bl_ BK157 hb; clear hb hbox hg) | ((with_reducible refine gate_dst (N := 5) rfl ?_); refine box_event ?hg (N := 5) ?hd (cs := #[.int .i64 0, .int .i64 0, .int .i64 0, .string (⟨#[]⟩ : ByteArray)]) (t := 35) ?hr ?_; (case hd => rfl); (case hg => rfl); (case hr => first | (go_simp; done) | (go_simp; rfl)); intro gb159 hg w38 hbox hb; have BK159 := Aside0.mk (hbox); have GW159 := Aside0.mk ((by rw [hg]; exact (below_size (by repeat (with_reducible first | exact HB.out | apply pw_below_drewN | apply below_drew1 | refine below_set ?_ (Aside0.out (by assumption))))) : w.heap.size ≤ gb159)); have GE159 := Aside0.mk ((by rw [hg]; exact (below_size (by repeat (with_reducible first | exact HB.out | apply pw_below_drewN | apply below_drew1 | refine below_set ?_ (Aside0.out (by assumption))))) : w.heap.size ≤ gb159)); replace HB := Aside0.mk (below_step (by repeat (with_reducible first | exact HB.out | apply pw_below_drewN | apply below_drew1 | refine below_set ?_ (Aside0.out (by assumption)))) hb); have NB157_159 := Aside0.mk ((by rw [hg]; exact Nat.ne_of_lt (blk_lt BK157.out) : gb157 ≠ gb159)); have NB159_157 := Aside0.mk ((by rw [hg]; exact Nat.ne_of_gt (blk_lt BK157.out) : gb159 ≠ gb157)); replace BK157 := bl_ BK157 hb; have NB158_159 := Aside0.mk ((by rw [hg]; exact Nat.ne_of_lt (blk_lt BK158.out) : gb158 ≠ gb159)); have NB159_158 := Aside0.mk ((by rw [hg]; exact Nat.ne_of_gt (blk_lt BK158.out) : gb159 ≠ gb158)); replace BK158 := bl_ BK158 hb; clear hb hbox hg; have hnb39 := NB157_158.out; have hnc39 := NB158_157.out; have hnb40 := NB157_159.out; have hnc40 := NB159_157.out; have hcz41_0 : w38.cell? ⟨gb157, 0, none⟩ = some (.int .i64 a0_0) := (blk_cell BK157.out 0).trans rfl; have hcz41_1 : w38.cell? ⟨gb157, 1, none⟩ = some (.slice A0_1 l0_1.length c0_1) := (blk_cell BK157.out 1).trans rfl; have hfz41_0 := blk_frozen BK157.out 0; have hfz41_1 := blk_frozen BK157.out 1) | ((with_reducible refine gate_callee (f := 34) rfl ?_); refine goesL_ (some 13) rfl rfl Try.func34 (by kernel_rfl) rfl #[.agg #[.int .i64 a0_0, .slice A0_1 l0_1.length c0_1], .int .i64 a1] rfl (by (try simp only [List.map_toArray, List.map_cons, List.map_nil]); first | done | rfl | (simp only [List.length_drop, List.length_take]; rfl)) ?_; (with_reducible refine (post_find.calls k a0_0 _ _ l0_1 a1 t160 t161 _ ?side1 ?side2 A3.out).mono ?_); (case side1 => exact (Kd.C_below HR0_1.out HB.out)); (case side2 => exact HC0_1.out); rintro e w42 ⟨rfl, hb⟩; refine ⟨_, rfl, ?_⟩; replace BK157 := bl_ BK157 hb; replace BK158 := bl_ BK158 hb; replace BK159 := Aside0.mk (blk_below (g := gb159) (o := .cells #[.int .i64 0, .int .i64 0, .int .i64 0, .string (⟨#[]⟩ : ByteArray)] 35 (0, 0)) BK159.out hb); replace HB := Aside0.mk (below_step (by repeat (with_reducible first | exact HB.out | apply pw_below_drewN | apply below_drew1 | refine below_set ?_ (Aside0.out (by assumption)))) hb); (try clear hb); (try clear hb2); (try clear hk); (try clear hi); have hnb43 := NB158_159.out; have hnc43 := NB159_158.out; have hcz44_0 : w42.cell? ⟨gb158, 0, none⟩ = some (.int .i64 0) := (blk_cell BK158.out 0).trans rfl; have hcz44_1 : w42.cell? ⟨gb158, 1, none⟩ = some (.slice none 0 0) := (blk_cell BK158.out 1).trans rfl; have hfz44_0 := blk_frozen BK158.out 0; have hfz44_1 := blk_frozen BK158.out 1; have hcz45_0 : w42.cell? ⟨gb159, 0, none⟩ = some (.int .i64 0) := (blk_cell BK159.out 0).trans rfl; have hcz45_1 : w42.cell? ⟨gb159, 1, none⟩ = some (.int .i64 0) := (blk_cell BK159.out 1).trans rfl; have hcz45_2 : w42.cell? ⟨gb159, 2, none⟩ = some (.int .i64 0) := (blk_cell BK159.out 2).trans rfl; have hcz45_3 : w42.cell? ⟨gb159, 3, none⟩ = some (.string (⟨#[]⟩ : ByteArray)) := (blk_cell BK159.out 3).trans rfl; have hfz45_0 := blk_frozen BK159.out 0; have hfz45_1 := blk_frozen BK159.out 1; have hfz45_2 := blk_frozen BK159.out 2; have hfz45_3 := blk_frozen BK159.out 3))
    refine bodyPost_ret (results_list (rs := [.cell 4 24, .cell 5 35, .tmp 6]) rfl (by simp) (.cell gb158 24 #[.int .i64 0, .slice none 0 0] (0, 0) _ rfl (by refine blk_far ?_ NB158_159.out _; refine blk_far ?_ NB158_159.out _; refine blk_far ?_ NB158_159.out _; refine blk_far ?_ NB158_159.out _; refine blk_put (cs := #[.int .i64 0, .slice none 0 0]) ?_ 1 _ rfl; refine blk_put (cs := #[.int .i64 0, .slice none 0 0]) ?_ 0 _ rfl; exact BK158.out) Try.underlying24 rfl (by kernel_rfl) (.cell gb159 35 #[.int .i64 0, .int .i64 0, .int .i64 0, .string (⟨#[]⟩ : ByteArray)] (0, 0) _ rfl (by refine blk_put (cs := #[.int .i64 0, .int .i64 0, .int .i64 0, .string (⟨#[]⟩ : ByteArray)]) ?_ 3 _ rfl; refine blk_put (cs := #[.int .i64 0, .int .i64 0, .int .i64 0, .string (⟨#[]⟩ : ByteArray)]) ?_ 2 _ rfl; refine blk_put (cs := #[.int .i64 0, .int .i64 0, .int .i64 0, .string (⟨#[]⟩ : ByteArray)]) ?_ 1 _ rfl; refine blk_put (cs := #[.int .i64 0, .int .i64 0, .int .i64 0, .string (⟨#[]⟩ : ByteArray)]) ?_ 0 _ rfl; refine blk_far ?_ NB159_158.out _; refine blk_far ?_ NB159_158.out _; exact BK159.out) Try.underlying35 rfl (by kernel_rfl) (.tmp .nil)))) rfl ?_
    exact ⟨_, by first | rfl | (simp [errW_none, errW_some] <;> rfl) | (simp [*, errW_none, errW_some] <;> rfl), by first | exact Kd.R_nil _ _ _ _ _ | exact Kd.N_nil _ _ _ _ _ | exact Kd.V_nil _ _ _ _ _ | exact Kd.Q_nil _ _ _ _ _ | exact Kd.S_nil _ _ _ _ _, by repeat (with_reducible first | exact HB.out | apply pw_below_drewN | apply below_drew1 | refine below_set ?_ (Aside0.out (by assumption)))⟩

end Go.Proofs.Ytofbkpdpgmjllaa.F
