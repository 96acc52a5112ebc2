-- Written by a program of this session (xprint.py), out of the translation and of contracts proved by hand.
import Derived.Test.YtofbkpdpgmjllaaF0
import Derived.Test.YtofbkpdpgmjllaaF1
import Derived.Test.YtofbkpdpgmjllaaF5
namespace Go.Proofs.Ytofbkpdpgmjllaa.F
open Go.RowKit Go.Proofs.YtofbkpdpgmjllaaV.PrintWords Go.Proofs.YtofbkpdpgmjllaaV.PrintLast Go.Proofs.YtofbkpdpgmjllaaV.PrintMore
attribute [local go_sem] max2_int min2_int max_two min_two max_three min_three max_four min_four   -- for this text's walks alone
set_option linter.unusedVariables false
set_option linter.unusedSimpArgs false

attribute [local go_sem high] eqA35
/-! ### post_To: function 19 -/
def post_To.f (a0_0 : Int) (l0_1 : List S35) (a1 : Int) : Option (List S35) := if l0_1.length < 1099511627776 then some (l0_1.filter (toP a1)) else none
section
attribute [local go_sem] Oper.semAt_some
set_option maxRecDepth 100000 in
set_option maxHeartbeats 4000000 in
theorem post_To.calls (a0_0 : Int) (A0_1 : Option Addr) (c0_1 : Nat) (l0_1 : List S35) (a1 : Int) (r : List S35) (w : World) (hr0_1 : Kd.C k35 w A0_1 l0_1.length l0_1) (hc0_1 : l0_1.length ≤ c0_1) (h : post_To.f a0_0 l0_1 a1 = some r) :
    Calls Try.prog 19 #[.agg #[.int .i64 a0_0, .slice A0_1 l0_1.length c0_1], .int .i64 a1] w fun e w' => ∃ v0_ : Value, e = .returned (v0_) ∧ Kd.R k35 35 w' w.heap.size (fun _ => True) v0_ r ∧ Below w.heap.size w w' := by
  have hu := Try.underlying24
  have hu2 := Try.underlying35
  unfold post_To.f at h
  by_cases c : l0_1.length < 1099511627776
  · rw [if_pos c] at h
    obtain rfl := Option.some.inj h
    have LM := Aside0.mk c
    have HR := Aside0.mk hr0_1
    have HC := Aside0.mk hc0_1
    clear h c hr0_1 hc0_1
    have hfa : ∀ f, Fence.wide.fn f := fun _ => trivial
    refine (callsIn_wide (n := 3)).1 ?_
    refine callsIn_of_wp_marks Try.func19 rfl trivial ?_ rfl
    simp only [Try.ntmps19, List.size_toArray, List.length_cons, List.length_nil, Nat.reduceAdd, Nat.reduceSub, Array.replicate_succ, Array.replicate_zero, List.push_toArray, List.append_toArray, List.nil_append, List.cons_append]
    gi_wp2_with (gi_at_call 40; refine (callsIn_wide.2 (post_to.calls a0_0 A0_1 l0_1.length c0_1 a1 _)).mono ?_; rintro e w' ⟨rfl, rfl⟩)
    obtain ⟨w1, e1⟩ : ∃ w1, w.alloc (.cells #[.int .i64 a0_0, .slice A0_1 l0_1.length c0_1] 24) = w1 := ⟨_, rfl⟩
    rw [e1]
    have s1 : w1.heap.size = w.heap.size + 1 := by rw [← e1]; simp
    have b1 : w1.heap[w.heap.size]? = some (.cells #[.int .i64 a0_0, .slice A0_1 l0_1.length c0_1] 24 (0, 0)) := by rw [← e1]; exact blk_new w _
    have l1 : Below w.heap.size w w1 := by rw [← e1]; exact below_alloc (Below.refl _ _) _
    clear e1
    obtain ⟨w2, e2⟩ : ∃ w2, w1.alloc (.cells #[.slice none 0 0] 22) = w2 := ⟨_, rfl⟩
    rw [e2]
    have s2 : w2.heap.size = w.heap.size + 1 + 1 := by rw [← e2]; simp [s1]
    have b2 : w2.heap[w.heap.size + 1]? = some (.cells #[.slice none 0 0] 22 (0, 0)) := by rw [← e2, ← s1]; exact blk_new w1 _
    have l2 : Below w1.heap.size w1 w2 := by rw [← e2]; exact below_alloc (Below.refl _ _) _
    clear e2
    obtain ⟨w3, e3⟩ : ∃ w3, w2.alloc (.cells #[.int .i64 a0_0, .slice A0_1 l0_1.length c0_1] 24) = w3 := ⟨_, rfl⟩
    rw [e3]
    have s3 : w3.heap.size = w.heap.size + 1 + 1 + 1 := by rw [← e3]; simp [s2]
    have b3 : w3.heap[w.heap.size + 1 + 1]? = some (.cells #[.int .i64 a0_0, .slice A0_1 l0_1.length c0_1] 24 (0, 0)) := by rw [← e3, ← s2]; exact blk_new w2 _
    have l3 : Below w2.heap.size w2 w3 := by rw [← e3]; exact below_alloc (Below.refl _ _) _
    clear e3
    obtain ⟨w4, e4⟩ : ∃ w4, w3.alloc (.cells #[.int .i64 a1] 3) = w4 := ⟨_, rfl⟩
    rw [e4]
    have s4 : w4.heap.size = w.heap.size + 1 + 1 + 1 + 1 := by rw [← e4]; simp [s3]
    have b4 : w4.heap[w.heap.size + 1 + 1 + 1]? = some (.cells #[.int .i64 a1] 3 (0, 0)) := by rw [← e4, ← s3]; exact blk_new w3 _
    have l4 : Below w3.heap.size w3 w4 := by rw [← e4]; exact below_alloc (Below.refl _ _) _
    clear e4
    have BL := Aside0.mk (below_step (below_step (below_step l1 l2) l3) l4)
    have B1 := Aside0.mk (blk_below (blk_below (blk_below b1 l2) l3) l4)
    have B2 := Aside0.mk (blk_below (blk_below b2 l3) l4)
    have B3 := Aside0.mk (blk_below b3 l4)
    have B4 := Aside0.mk b4
    have S4 := Aside0.mk s4
    clear b1 b2 b3 b4 l1 l2 l3 l4 s1 s2 s3 s4
    refine wpIn_rangeFunc_ownG (α := Fin l0_1.length) (F := Fence.wide) (n := 3) rfl (by decide) (gf := 45) rfl trivial (enters_of Try.func45 (by kernel_rfl) rfl)
      (post_to1.stops 2 (by decide) a0_0 a1 A0_1 c0_1 l0_1 w w4 (w.heap.size + 1 + 1) (w.heap.size + 1 + 1 + 1) HR.out BL.out B3.out B4.out)
      (fun h k => h.t k) (fun W l o o' hl h h1 h2 => KpTo.b (w := w4) (m := w.heap.size) (B := w.heap.size + 1 + 1) (C := w.heap.size + 1 + 1 + 1) (by have := S4.out; omega) (by have := S4.out; omega) (by have := S4.out; omega) W l o o' hl h h1 h2) (Below.refl _ _) (fun _ => rfl)
      (fun pre W => (∃ v, Boxed W (w.heap.size + 1) 22 v ∧ Kd.R k35 35 W w.heap.size (fun k => w.heap.size + 1 + 1 + 1 + 1 ≤ k) v (pre.map (fun i => l0_1[i]))) ∧ W.heap[w.heap.size]? = some (.cells #[.int .i64 a0_0, .slice A0_1 l0_1.length c0_1] 24 (0, 0)) ∧ w4.heap.size ≤ W.heap.size ∧ Below w.heap.size w W)
      (fun _ _ _ => False)
      ?own (fun _ _ _ _ _ hs _ _ => hs) ?start
      (fun x => { tmps := #[.agg #[.int .i64 a0_0, .slice A0_1 l0_1.length c0_1], .int .i64 a1, .pointer (some ⟨w.heap.size, 0, none⟩), undef, .slice none 0 0, .pointer (some ⟨w.heap.size + 1, 0, none⟩), .int .i64 (x.1 : Int), .agg #[.int .i64 a0_0, .slice A0_1 l0_1.length c0_1], .int .i64 a1, .func (.func 45) #[] #[.pointer (some ⟨w.heap.size + 1 + 1, 0, none⟩), .pointer (some ⟨w.heap.size + 1 + 1 + 1, 0, none⟩)], .int .i64 (x.1 : Int), undef, undef, undef, undef, undef, undef, undef, undef, undef], defers := [] })
      ?assign ?body ?done ?stop
    case own => exact OwnFrom.and (Own.from (Go.Proofs.Ytofbkpdpgmjllaa.X.boxR_own k35 35 w.heap.size (w.heap.size + 1) 22 _ (fun pre : List (Fin l0_1.length) => pre.map (fun i => l0_1[i]))) _) (OwnFrom.and (Own.from (Go.Proofs.Ytofbkpdpgmjllaa.X.blk_own (fun _ => _)) _) (OwnFrom.and (fun _ _ _ _ hs hg _ => Nat.le_trans hs hg.size) (ownFrom_below (Nat.le_refl _) (by have := S4.out; omega))))
    case start => exact ⟨⟨_, B2.out, Kd.R_nil _ _ _ _ _⟩, B1.out, Nat.le_refl _, BL.out⟩
    case assign =>
      intro l x W K hK
      gi_wp2
      exact hK
    case stop =>
      rintro D c pre W hD _ h
      exact h.elim
    case done =>
      rintro D ys W hD rfl ⟨⟨v, hv, hR⟩, hb1, hsz, hbel⟩ hK
      have hc := hv.cell
      rw [places_all] at hR
      have RO := Aside0.mk (Kd.R_mono hR (fun _ _ => trivial) : Kd.R k35 35 W w.heap.size (fun _ => True) v (l0_1.filter (toP a1)))
      have BO := Aside0.mk hbel
      have KO := Aside0.mk hK
      have DO := Aside0.mk hD
      clear hR hbel hK hD hsz hb1 hv
      gi_wp2
      refine ⟨by simp, .inl ⟨_, _, rfl, run_takeDeferred KO.out, ?_⟩⟩
      exact ⟨_, results_tmp rfl _ _ _, _, rfl, Go.Proofs.Ytofbkpdpgmjllaa.X.R_nocells RO.out (grownBy_putObj' _ _ _) (fun r e => by cases e; exact ⟨_, KO.out, rfl⟩), BO.out.grown (grownBy_putObj' _ _ _) BO.out.size (fun k e => by cases e; have := S4.out; have := DO.out; omega)⟩
    case body =>
      rintro y pre x W ⟨⟨v, hv, hR⟩, hb1, hsz, hbel⟩ hlen
      have hmx : Try.prog.follows .mixedOrders = true := by kernel_rfl
      have hle : w.heap.size + 1 + 1 + 1 + 1 ≤ W.heap.size := by have := S4.out; omega
      have hc2 : W.cell? ⟨w.heap.size + 1, 0, none⟩ = some v := hv.cell
      have hf2 : W.frozen? ⟨w.heap.size + 1, 0, none⟩ = false := hv.frozen
      have hcp : W.cell? ⟨w.heap.size, 1, none⟩ = some (.slice A0_1 l0_1.length c0_1) := (blk_cell hb1 1).trans rfl
      have hltz : (x.1 : Int) < (l0_1.length : Int) := by have := x.2; omega
      have hx00 : (0 : Int) ≤ (x.1 : Int) := by omega
      obtain ⟨ad, e0, hx0, hx1, hx2, hx3⟩ := at_T35 (Kd.C_below HR.out hbel) (x.1 : Int) (by omega) hltz
      cases e0
      have hrd : rd_T35 l0_1 (x.1 : Int) = l0_1[x] := by simp [rd_T35, List.getD_eq_getElem?_getD]
      have hmap : (pre ++ [x]).map (fun i => l0_1[i]) = pre.map (fun i => l0_1[i]) ++ [l0_1[x]] := by rw [List.map_append]; rfl
      rw [← hrd] at hmap
      generalize rd_T35 l0_1 (x.1 : Int) = y_ at hx0 hx1 hx2 hx3 hmap
      clear hrd
      obtain ⟨x0, x1, x2, x3⟩ := y_
      simp only [Int.toNat_natCast] at hx0 hx1 hx2 hx3
      have MP := Aside0.mk hmap
      have RB := Aside0.mk hR
      have BB := Aside0.mk hbel
      have VB := Aside0.mk hv
      have B1B := Aside0.mk hb1
      have SB := Aside0.mk hsz
      have LN := Aside0.mk hlen
      clear hmap hR hbel hv hb1 hsz hlen
      gi_wp2
      have hc3 : (W.alloc (.cells #[.int .i64 x0, .int .i64 x1, .int .i64 x2, .string x3] 35)).cell? ⟨w.heap.size + 1, 0, none⟩ = some v := (VB.out.alloc _).cell
      refine Go.Proofs.Ytofbkpdpgmjllaa.X.wpIn_region_any_plain hmx (by rfl) (by rintro ⟨a, w, h⟩; exact h) ?_
      refine wpAny_take (i := 1) (v := .pointer (some ⟨w.heap.size, 1, none⟩)) rfl (by kernel_rfl) (by kernel_rfl) (by kernel_rfl) (fun _ _ _ h => h) (Or.inl ⟨by rfl, ?y1⟩) ?_
      case y1 => (intro w; go_simp)
      refine wpAny_take (i := 3) (v := .int .i64 (x.1 : Int)) rfl (by kernel_rfl) (by kernel_rfl) (by kernel_rfl) (fun _ _ _ h => h) (Or.inl ⟨by rfl, ?y2⟩) ?_
      case y2 => (intro w; go_simp)
      refine wpAny_ready (rs := [0, 2]) (by kernel_rfl) (by simp) ?_
      refine AllReady.cons rfl (fun K hK => ?_) (AllReady.cons rfl (fun K hK => ?_) AllReady.nil)
      · (go_simp; refine hK _ _ ?_; clear hK K)
        refine wpAny_ready (rs := [2]) (by kernel_rfl) (by simp) ?_
        refine AllReady.cons rfl (fun K hK => ?_) AllReady.nil
        (go_simp; refine hK _ _ ?_; clear hK K)
        refine wpAny_ready (rs := [4]) (by kernel_rfl) (by simp) ?_
        refine AllReady.cons rfl (fun K hK => ?_) AllReady.nil
        (go_simp; refine hK _ _ ?_; clear hK K)
        refine wpAny_ready (rs := [5]) (by kernel_rfl) (by simp) ?_
        refine AllReady.cons rfl (fun K hK => ?_) AllReady.nil
        (go_simp; refine hK _ _ ?_; clear hK K)
        refine wpAny_ready (rs := [6]) (by kernel_rfl) (by simp) ?_
        refine AllReady.cons rfl (fun K hK => ?_) AllReady.nil
        (go_simp; refine hK _ _ ?_; clear hK K)
        refine wpAny_ready (rs := [7]) (by kernel_rfl) (by simp) ?_
        refine AllReady.cons rfl (fun K hK => ?_) AllReady.nil
        refine Kd.R_append_step k35 (w0 := W) (W := World.drew W) w.heap.size (by rfl) (.tmp 11) (.tmp 17) 22 35 (.agg #[.int .i64 0, .int .i64 0, .int .i64 0, .string ⟨#[]⟩]) 40 rfl Try.underlying22 info35 rfl (by decide) (by omega) v (pre.map (fun i => l0_1[i])) ⟨x0, x1, x2, x3⟩ [.int .i64 x0, .int .i64 x1, .int .i64 x2, .string x3] _ (fun _ => False) rfl rfl (k35_mkM _ _ _ _) (fun _ h => h.elim) (fun k hk => Nat.le_trans hle hk) (Kd.R_drew RB.out) (below_drew (Below.refl _ _)) (by have := hle; show _ ≤ W.heap.size; omega) (by have := LN.out; have := LM.out; simp only [List.length_map]; omega) ?_
        intro v1 w3 ho hb hg hat
        refine hK _ _ ?_
        clear hK K
        obtain ⟨A1, c1, e1⟩ := Kd.R_slice ho
        rw [show (pre.map (fun i => l0_1[i]) ++ [(⟨x0, x1, x2, x3⟩ : S35)]).length = pre.length + 1 by simp] at e1
        subst e1
        have hcells : ∀ (j : Nat) (o : Obj), v.ownBlock = some j → (World.drew W).heap[j]? = some o → o.isCells = true := fun j o hj ho' => by
          obtain ⟨_, _, _, q, _, cells, hcells⟩ := (Kd.R_bound RB.out).1 j hj
          rw [show (World.drew W).heap[j]? = W.heap[j]? from rfl, hcells] at ho'; cases ho'; rfl
        have hne : ∀ k, k < w.heap.size + 1 + 1 + 1 + 1 → some k ≠ v.ownBlock := fun k hk he => by have := RB.out.1 k he.symm; omega
        have hv3 : Boxed w3 (w.heap.size + 1) 22 v := Boxed.kept (W := World.drew W) VB.out hg (hne _ (by omega))
        have hc3 := hv3.cell
        have hf3 := hv3.frozen
        have Z1 := Aside0.mk (((KeepsOthers.drew W).trans (KeepsOthers.of_grownBy hg (fun j o hj ho' => hcells j o hj ho'))).trans (KeepsOthers.setCell w3 ⟨w.heap.size + 1, 0, none⟩ (.slice A1 (pre.length + 1) c1)))
        have Z2 := Aside0.mk (hb.setCell (p := ⟨w.heap.size + 1, 0, none⟩) (by show w.heap.size ≤ w.heap.size + 1; omega) (.slice A1 (pre.length + 1) c1))
        have Z3 := Aside0.mk (fun k (hk : k < w.heap.size + 1 + 1 + 1 + 1) (hk2 : k ≠ w.heap.size + 1) o (ho' : W.heap[k]? = some o) => (Below.heap_setCell w3 ⟨w.heap.size + 1, 0, none⟩ (.slice A1 (pre.length + 1) c1) k hk2).trans (blk_grown (w := World.drew W) ho' hg (hne k hk)))
        have Z4 := Aside0.mk (hv3.set (.slice A1 (pre.length + 1) c1))
        have Z5 := Aside0.mk (Kd.R_far ho (p := ⟨w.heap.size + 1, 0, none⟩) (fun k hk => by show k ≠ w.heap.size + 1; omega) (.slice A1 (pre.length + 1) c1))
        have Z6 := Aside0.mk hb.size
        clear ho hb hg hat hcells hne hv3
        refine wpAny_ready (rs := [8]) (by kernel_rfl) (by simp) ?_
        refine AllReady.cons rfl (fun K hK => ?_) AllReady.nil
        go_simp
        refine hK _ _ ?_
        clear hK K
        refine wpAny_done (by kernel_rfl) ?_ _
        refine ⟨Z1.out.from _, ⟨Z2.out, fun o ho' => Z3.out _ (by omega) (by omega) o ho', fun o ho' => Z3.out _ (by omega) (by omega) o ho'⟩, ⟨_, Z4.out, ?_⟩, Z3.out _ (by omega) (by omega) _ B1B.out, Nat.le_trans SB.out (Nat.le_trans Z6.out (KeepsWalks.setCell _ _ _).size), BB.out.trans Z2.out⟩
        rw [MP.out]
        exact Z5.out
      · (go_simp; refine hK _ _ ?_; clear hK K)
        refine wpAny_ready (rs := [0, 4]) (by kernel_rfl) (by simp) ?_
        refine AllReady.cons rfl (fun K hK => ?_) (AllReady.cons rfl (fun K hK => ?_) AllReady.nil)
        · (go_simp; refine hK _ _ ?_; clear hK K)
          refine wpAny_ready (rs := [4]) (by kernel_rfl) (by simp) ?_
          refine AllReady.cons rfl (fun K hK => ?_) AllReady.nil
          (go_simp; refine hK _ _ ?_; clear hK K)
          refine wpAny_ready (rs := [5]) (by kernel_rfl) (by simp) ?_
          refine AllReady.cons rfl (fun K hK => ?_) AllReady.nil
          (go_simp; refine hK _ _ ?_; clear hK K)
          refine wpAny_ready (rs := [6]) (by kernel_rfl) (by simp) ?_
          refine AllReady.cons rfl (fun K hK => ?_) AllReady.nil
          (go_simp; refine hK _ _ ?_; clear hK K)
          refine wpAny_ready (rs := [7]) (by kernel_rfl) (by simp) ?_
          refine AllReady.cons rfl (fun K hK => ?_) AllReady.nil
          refine Kd.R_append_step k35 (w0 := W) (W := World.drew W) w.heap.size (by rfl) (.tmp 11) (.tmp 17) 22 35 (.agg #[.int .i64 0, .int .i64 0, .int .i64 0, .string ⟨#[]⟩]) 40 rfl Try.underlying22 info35 rfl (by decide) (by omega) v (pre.map (fun i => l0_1[i])) ⟨x0, x1, x2, x3⟩ [.int .i64 x0, .int .i64 x1, .int .i64 x2, .string x3] _ (fun _ => False) rfl rfl (k35_mkM _ _ _ _) (fun _ h => h.elim) (fun k hk => Nat.le_trans hle hk) (Kd.R_drew RB.out) (below_drew (Below.refl _ _)) (by have := hle; show _ ≤ W.heap.size; omega) (by have := LN.out; have := LM.out; simp only [List.length_map]; omega) ?_
          intro v1 w3 ho hb hg hat
          refine hK _ _ ?_
          clear hK K
          obtain ⟨A1, c1, e1⟩ := Kd.R_slice ho
          rw [show (pre.map (fun i => l0_1[i]) ++ [(⟨x0, x1, x2, x3⟩ : S35)]).length = pre.length + 1 by simp] at e1
          subst e1
          have hcells : ∀ (j : Nat) (o : Obj), v.ownBlock = some j → (World.drew W).heap[j]? = some o → o.isCells = true := fun j o hj ho' => by
            obtain ⟨_, _, _, q, _, cells, hcells⟩ := (Kd.R_bound RB.out).1 j hj
            rw [show (World.drew W).heap[j]? = W.heap[j]? from rfl, hcells] at ho'; cases ho'; rfl
          have hne : ∀ k, k < w.heap.size + 1 + 1 + 1 + 1 → some k ≠ v.ownBlock := fun k hk he => by have := RB.out.1 k he.symm; omega
          have hv3 : Boxed w3 (w.heap.size + 1) 22 v := Boxed.kept (W := World.drew W) VB.out hg (hne _ (by omega))
          have hc3 := hv3.cell
          have hf3 := hv3.frozen
          have Z1 := Aside0.mk (((KeepsOthers.drew W).trans (KeepsOthers.of_grownBy hg (fun j o hj ho' => hcells j o hj ho'))).trans (KeepsOthers.setCell w3 ⟨w.heap.size + 1, 0, none⟩ (.slice A1 (pre.length + 1) c1)))
          have Z2 := Aside0.mk (hb.setCell (p := ⟨w.heap.size + 1, 0, none⟩) (by show w.heap.size ≤ w.heap.size + 1; omega) (.slice A1 (pre.length + 1) c1))
          have Z3 := Aside0.mk (fun k (hk : k < w.heap.size + 1 + 1 + 1 + 1) (hk2 : k ≠ w.heap.size + 1) o (ho' : W.heap[k]? = some o) => (Below.heap_setCell w3 ⟨w.heap.size + 1, 0, none⟩ (.slice A1 (pre.length + 1) c1) k hk2).trans (blk_grown (w := World.drew W) ho' hg (hne k hk)))
          have Z4 := Aside0.mk (hv3.set (.slice A1 (pre.length + 1) c1))
          have Z5 := Aside0.mk (Kd.R_far ho (p := ⟨w.heap.size + 1, 0, none⟩) (fun k hk => by show k ≠ w.heap.size + 1; omega) (.slice A1 (pre.length + 1) c1))
          have Z6 := Aside0.mk hb.size
          clear ho hb hg hat hcells hne hv3
          refine wpAny_ready (rs := [8]) (by kernel_rfl) (by simp) ?_
          refine AllReady.cons rfl (fun K hK => ?_) AllReady.nil
          go_simp
          refine hK _ _ ?_
          clear hK K
          refine wpAny_done (by kernel_rfl) ?_ _
          refine ⟨Z1.out.from _, ⟨Z2.out, fun o ho' => Z3.out _ (by omega) (by omega) o ho', fun o ho' => Z3.out _ (by omega) (by omega) o ho'⟩, ⟨_, Z4.out, ?_⟩, Z3.out _ (by omega) (by omega) _ B1B.out, Nat.le_trans SB.out (Nat.le_trans Z6.out (KeepsWalks.setCell _ _ _).size), BB.out.trans Z2.out⟩
          rw [MP.out]
          exact Z5.out
        · (go_simp; refine hK _ _ ?_; clear hK K)
          refine wpAny_ready (rs := [0, 5]) (by kernel_rfl) (by simp) ?_
          refine AllReady.cons rfl (fun K hK => ?_) (AllReady.cons rfl (fun K hK => ?_) AllReady.nil)
          · (go_simp; refine hK _ _ ?_; clear hK K)
            refine wpAny_ready (rs := [5]) (by kernel_rfl) (by simp) ?_
            refine AllReady.cons rfl (fun K hK => ?_) AllReady.nil
            (go_simp; refine hK _ _ ?_; clear hK K)
            refine wpAny_ready (rs := [6]) (by kernel_rfl) (by simp) ?_
            refine AllReady.cons rfl (fun K hK => ?_) AllReady.nil
            (go_simp; refine hK _ _ ?_; clear hK K)
            refine wpAny_ready (rs := [7]) (by kernel_rfl) (by simp) ?_
            refine AllReady.cons rfl (fun K hK => ?_) AllReady.nil
            refine Kd.R_append_step k35 (w0 := W) (W := World.drew W) w.heap.size (by rfl) (.tmp 11) (.tmp 17) 22 35 (.agg #[.int .i64 0, .int .i64 0, .int .i64 0, .string ⟨#[]⟩]) 40 rfl Try.underlying22 info35 rfl (by decide) (by omega) v (pre.map (fun i => l0_1[i])) ⟨x0, x1, x2, x3⟩ [.int .i64 x0, .int .i64 x1, .int .i64 x2, .string x3] _ (fun _ => False) rfl rfl (k35_mkM _ _ _ _) (fun _ h => h.elim) (fun k hk => Nat.le_trans hle hk) (Kd.R_drew RB.out) (below_drew (Below.refl _ _)) (by have := hle; show _ ≤ W.heap.size; omega) (by have := LN.out; have := LM.out; simp only [List.length_map]; omega) ?_
            intro v1 w3 ho hb hg hat
            refine hK _ _ ?_
            clear hK K
            obtain ⟨A1, c1, e1⟩ := Kd.R_slice ho
            rw [show (pre.map (fun i => l0_1[i]) ++ [(⟨x0, x1, x2, x3⟩ : S35)]).length = pre.length + 1 by simp] at e1
            subst e1
            have hcells : ∀ (j : Nat) (o : Obj), v.ownBlock = some j → (World.drew W).heap[j]? = some o → o.isCells = true := fun j o hj ho' => by
              obtain ⟨_, _, _, q, _, cells, hcells⟩ := (Kd.R_bound RB.out).1 j hj
              rw [show (World.drew W).heap[j]? = W.heap[j]? from rfl, hcells] at ho'; cases ho'; rfl
            have hne : ∀ k, k < w.heap.size + 1 + 1 + 1 + 1 → some k ≠ v.ownBlock := fun k hk he => by have := RB.out.1 k he.symm; omega
            have hv3 : Boxed w3 (w.heap.size + 1) 22 v := Boxed.kept (W := World.drew W) VB.out hg (hne _ (by omega))
            have hc3 := hv3.cell
            have hf3 := hv3.frozen
            have Z1 := Aside0.mk (((KeepsOthers.drew W).trans (KeepsOthers.of_grownBy hg (fun j o hj ho' => hcells j o hj ho'))).trans (KeepsOthers.setCell w3 ⟨w.heap.size + 1, 0, none⟩ (.slice A1 (pre.length + 1) c1)))
            have Z2 := Aside0.mk (hb.setCell (p := ⟨w.heap.size + 1, 0, none⟩) (by show w.heap.size ≤ w.heap.size + 1; omega) (.slice A1 (pre.length + 1) c1))
            have Z3 := Aside0.mk (fun k (hk : k < w.heap.size + 1 + 1 + 1 + 1) (hk2 : k ≠ w.heap.size + 1) o (ho' : W.heap[k]? = some o) => (Below.heap_setCell w3 ⟨w.heap.size + 1, 0, none⟩ (.slice A1 (pre.length + 1) c1) k hk2).trans (blk_grown (w := World.drew W) ho' hg (hne k hk)))
            have Z4 := Aside0.mk (hv3.set (.slice A1 (pre.length + 1) c1))
            have Z5 := Aside0.mk (Kd.R_far ho (p := ⟨w.heap.size + 1, 0, none⟩) (fun k hk => by show k ≠ w.heap.size + 1; omega) (.slice A1 (pre.length + 1) c1))
            have Z6 := Aside0.mk hb.size
            clear ho hb hg hat hcells hne hv3
            refine wpAny_ready (rs := [8]) (by kernel_rfl) (by simp) ?_
            refine AllReady.cons rfl (fun K hK => ?_) AllReady.nil
            go_simp
            refine hK _ _ ?_
            clear hK K
            refine wpAny_done (by kernel_rfl) ?_ _
            refine ⟨Z1.out.from _, ⟨Z2.out, fun o ho' => Z3.out _ (by omega) (by omega) o ho', fun o ho' => Z3.out _ (by omega) (by omega) o ho'⟩, ⟨_, Z4.out, ?_⟩, Z3.out _ (by omega) (by omega) _ B1B.out, Nat.le_trans SB.out (Nat.le_trans Z6.out (KeepsWalks.setCell _ _ _).size), BB.out.trans Z2.out⟩
            rw [MP.out]
            exact Z5.out
          · (go_simp; refine hK _ _ ?_; clear hK K)
            refine wpAny_ready (rs := [0, 6]) (by kernel_rfl) (by simp) ?_
            refine AllReady.cons rfl (fun K hK => ?_) (AllReady.cons rfl (fun K hK => ?_) AllReady.nil)
            · (go_simp; refine hK _ _ ?_; clear hK K)
              refine wpAny_ready (rs := [6]) (by kernel_rfl) (by simp) ?_
              refine AllReady.cons rfl (fun K hK => ?_) AllReady.nil
              (go_simp; refine hK _ _ ?_; clear hK K)
              refine wpAny_ready (rs := [7]) (by kernel_rfl) (by simp) ?_
              refine AllReady.cons rfl (fun K hK => ?_) AllReady.nil
              refine Kd.R_append_step k35 (w0 := W) (W := World.drew W) w.heap.size (by rfl) (.tmp 11) (.tmp 17) 22 35 (.agg #[.int .i64 0, .int .i64 0, .int .i64 0, .string ⟨#[]⟩]) 40 rfl Try.underlying22 info35 rfl (by decide) (by omega) v (pre.map (fun i => l0_1[i])) ⟨x0, x1, x2, x3⟩ [.int .i64 x0, .int .i64 x1, .int .i64 x2, .string x3] _ (fun _ => False) rfl rfl (k35_mkM _ _ _ _) (fun _ h => h.elim) (fun k hk => Nat.le_trans hle hk) (Kd.R_drew RB.out) (below_drew (Below.refl _ _)) (by have := hle; show _ ≤ W.heap.size; omega) (by have := LN.out; have := LM.out; simp only [List.length_map]; omega) ?_
              intro v1 w3 ho hb hg hat
              refine hK _ _ ?_
              clear hK K
              obtain ⟨A1, c1, e1⟩ := Kd.R_slice ho
              rw [show (pre.map (fun i => l0_1[i]) ++ [(⟨x0, x1, x2, x3⟩ : S35)]).length = pre.length + 1 by simp] at e1
              subst e1
              have hcells : ∀ (j : Nat) (o : Obj), v.ownBlock = some j → (World.drew W).heap[j]? = some o → o.isCells = true := fun j o hj ho' => by
                obtain ⟨_, _, _, q, _, cells, hcells⟩ := (Kd.R_bound RB.out).1 j hj
                rw [show (World.drew W).heap[j]? = W.heap[j]? from rfl, hcells] at ho'; cases ho'; rfl
              have hne : ∀ k, k < w.heap.size + 1 + 1 + 1 + 1 → some k ≠ v.ownBlock := fun k hk he => by have := RB.out.1 k he.symm; omega
              have hv3 : Boxed w3 (w.heap.size + 1) 22 v := Boxed.kept (W := World.drew W) VB.out hg (hne _ (by omega))
              have hc3 := hv3.cell
              have hf3 := hv3.frozen
              have Z1 := Aside0.mk (((KeepsOthers.drew W).trans (KeepsOthers.of_grownBy hg (fun j o hj ho' => hcells j o hj ho'))).trans (KeepsOthers.setCell w3 ⟨w.heap.size + 1, 0, none⟩ (.slice A1 (pre.length + 1) c1)))
              have Z2 := Aside0.mk (hb.setCell (p := ⟨w.heap.size + 1, 0, none⟩) (by show w.heap.size ≤ w.heap.size + 1; omega) (.slice A1 (pre.length + 1) c1))
              have Z3 := Aside0.mk (fun k (hk : k < w.heap.size + 1 + 1 + 1 + 1) (hk2 : k ≠ w.heap.size + 1) o (ho' : W.heap[k]? = some o) => (Below.heap_setCell w3 ⟨w.heap.size + 1, 0, none⟩ (.slice A1 (pre.length + 1) c1) k hk2).trans (blk_grown (w := World.drew W) ho' hg (hne k hk)))
              have Z4 := Aside0.mk (hv3.set (.slice A1 (pre.length + 1) c1))
              have Z5 := Aside0.mk (Kd.R_far ho (p := ⟨w.heap.size + 1, 0, none⟩) (fun k hk => by show k ≠ w.heap.size + 1; omega) (.slice A1 (pre.length + 1) c1))
              have Z6 := Aside0.mk hb.size
              clear ho hb hg hat hcells hne hv3
              refine wpAny_ready (rs := [8]) (by kernel_rfl) (by simp) ?_
              refine AllReady.cons rfl (fun K hK => ?_) AllReady.nil
              go_simp
              refine hK _ _ ?_
              clear hK K
              refine wpAny_done (by kernel_rfl) ?_ _
              refine ⟨Z1.out.from _, ⟨Z2.out, fun o ho' => Z3.out _ (by omega) (by omega) o ho', fun o ho' => Z3.out _ (by omega) (by omega) o ho'⟩, ⟨_, Z4.out, ?_⟩, Z3.out _ (by omega) (by omega) _ B1B.out, Nat.le_trans SB.out (Nat.le_trans Z6.out (KeepsWalks.setCell _ _ _).size), BB.out.trans Z2.out⟩
              rw [MP.out]
              exact Z5.out
            · (go_simp; refine hK _ _ ?_; clear hK K)
              refine wpAny_ready (rs := [0]) (by kernel_rfl) (by simp) ?_
              refine AllReady.cons rfl (fun K hK => ?_) AllReady.nil
              (go_simp; refine hK _ _ ?_; clear hK K)
              refine wpAny_ready (rs := [7]) (by kernel_rfl) (by simp) ?_
              refine AllReady.cons rfl (fun K hK => ?_) AllReady.nil
              refine Kd.R_append_step k35 (w0 := W) (W := World.drew W) w.heap.size (by rfl) (.tmp 11) (.tmp 17) 22 35 (.agg #[.int .i64 0, .int .i64 0, .int .i64 0, .string ⟨#[]⟩]) 40 rfl Try.underlying22 info35 rfl (by decide) (by omega) v (pre.map (fun i => l0_1[i])) ⟨x0, x1, x2, x3⟩ [.int .i64 x0, .int .i64 x1, .int .i64 x2, .string x3] _ (fun _ => False) rfl rfl (k35_mkM _ _ _ _) (fun _ h => h.elim) (fun k hk => Nat.le_trans hle hk) (Kd.R_drew RB.out) (below_drew (Below.refl _ _)) (by have := hle; show _ ≤ W.heap.size; omega) (by have := LN.out; have := LM.out; simp only [List.length_map]; omega) ?_
              intro v1 w3 ho hb hg hat
              refine hK _ _ ?_
              clear hK K
              obtain ⟨A1, c1, e1⟩ := Kd.R_slice ho
              rw [show (pre.map (fun i => l0_1[i]) ++ [(⟨x0, x1, x2, x3⟩ : S35)]).length = pre.length + 1 by simp] at e1
              subst e1
              have hcells : ∀ (j : Nat) (o : Obj), v.ownBlock = some j → (World.drew W).heap[j]? = some o → o.isCells = true := fun j o hj ho' => by
                obtain ⟨_, _, _, q, _, cells, hcells⟩ := (Kd.R_bound RB.out).1 j hj
                rw [show (World.drew W).heap[j]? = W.heap[j]? from rfl, hcells] at ho'; cases ho'; rfl
              have hne : ∀ k, k < w.heap.size + 1 + 1 + 1 + 1 → some k ≠ v.ownBlock := fun k hk he => by have := RB.out.1 k he.symm; omega
              have hv3 : Boxed w3 (w.heap.size + 1) 22 v := Boxed.kept (W := World.drew W) VB.out hg (hne _ (by omega))
              have hc3 := hv3.cell
              have hf3 := hv3.frozen
              have Z1 := Aside0.mk (((KeepsOthers.drew W).trans (KeepsOthers.of_grownBy hg (fun j o hj ho' => hcells j o hj ho'))).trans (KeepsOthers.setCell w3 ⟨w.heap.size + 1, 0, none⟩ (.slice A1 (pre.length + 1) c1)))
              have Z2 := Aside0.mk (hb.setCell (p := ⟨w.heap.size + 1, 0, none⟩) (by show w.heap.size ≤ w.heap.size + 1; omega) (.slice A1 (pre.length + 1) c1))
              have Z3 := Aside0.mk (fun k (hk : k < w.heap.size + 1 + 1 + 1 + 1) (hk2 : k ≠ w.heap.size + 1) o (ho' : W.heap[k]? = some o) => (Below.heap_setCell w3 ⟨w.heap.size + 1, 0, none⟩ (.slice A1 (pre.length + 1) c1) k hk2).trans (blk_grown (w := World.drew W) ho' hg (hne k hk)))
              have Z4 := Aside0.mk (hv3.set (.slice A1 (pre.length + 1) c1))
              have Z5 := Aside0.mk (Kd.R_far ho (p := ⟨w.heap.size + 1, 0, none⟩) (fun k hk => by show k ≠ w.heap.size + 1; omega) (.slice A1 (pre.length + 1) c1))
              have Z6 := Aside0.mk hb.size
              clear ho hb hg hat hcells hne hv3
              refine wpAny_ready (rs := [8]) (by kernel_rfl) (by simp) ?_
              refine AllReady.cons rfl (fun K hK => ?_) AllReady.nil
              go_simp
              refine hK _ _ ?_
              clear hK K
              refine wpAny_done (by kernel_rfl) ?_ _
              refine ⟨Z1.out.from _, ⟨Z2.out, fun o ho' => Z3.out _ (by omega) (by omega) o ho', fun o ho' => Z3.out _ (by omega) (by omega) o ho'⟩, ⟨_, Z4.out, ?_⟩, Z3.out _ (by omega) (by omega) _ B1B.out, Nat.le_trans SB.out (Nat.le_trans Z6.out (KeepsWalks.setCell _ _ _).size), BB.out.trans Z2.out⟩
              rw [MP.out]
              exact Z5.out
  · rw [if_neg c] at h
    exact absurd h (by simp)
end

/-! ### watchmanref21_SameLetters: function 21 -/
def watchmanref21_SameLetters.l0 : Nat → List (S35) → List (S35) → Int → Option (Bool)
  | 0, _, _, _ => none
  | k + 1, x0, x1, x5 => if x5 < (x0.length : Int) then (if 0 ≤ x5 then (if x5 < (x1.length : Int) then (if (!(((rd_T35 x0 x5).f0) == ((rd_T35 x1 x5).f0)) || (!(((rd_T35 x0 x5).f1) == ((rd_T35 x1 x5).f1)) || (!(((rd_T35 x0 x5).f2) == ((rd_T35 x1 x5).f2)) || (!((((rd_T35 x0 x5).f3).toList) == (((rd_T35 x1 x5).f3).toList)))))) = true then (some false) else (watchmanref21_SameLetters.l0 k x0 x1 (wrap64 (x5 + 1)))) else (none)) else (none)) else (some true)
def watchmanref21_SameLetters.f (k : Nat) (l0 : List (S35)) (l1 : List (S35)) : Option (Bool) := if (l0.length : Int) = (l1.length : Int) then (watchmanref21_SameLetters.l0 k l0 l1 0) else (some false)
theorem watchmanref21_SameLetters.mono_l : ∀ k, (∀ y0 y1 y2, LeO (watchmanref21_SameLetters.l0 k y0 y1 y2) (watchmanref21_SameLetters.l0 (k + 1) y0 y1 y2))
  | 0 => fun _ _ _ r h => by simp [watchmanref21_SameLetters.l0] at h
  | k + 1 => by
    have ih0 := watchmanref21_SameLetters.mono_l k
    · intro y0 y1 y2
      unfold watchmanref21_SameLetters.l0
      repeat' first
      | (with_reducible exact ih0 _ _ _)
      | (with_reducible exact LeO.refl _)
      | (with_reducible exact LeO.none _)
      | (with_reducible refine LeO.ite ?_ ?_)
      | (with_reducible refine LeO.bind ?_ (fun _ => ?_))
      | exact ih0 _ _ _
      | exact LeO.none _
      | refine LeO.ite ?_ ?_
      | refine LeO.bind ?_ (fun _ => ?_)
theorem watchmanref21_SameLetters.mono : ∀ a0 a1 k, LeO (watchmanref21_SameLetters.f k a0 a1) (watchmanref21_SameLetters.f (k + 1) a0 a1) := by
  intro a0 a1 k
  have ih0 := watchmanref21_SameLetters.mono_l k
  unfold watchmanref21_SameLetters.f
  repeat' first
      | (with_reducible exact ih0 _ _ _)
      | (with_reducible exact LeO.refl _)
      | (with_reducible exact LeO.none _)
      | (with_reducible refine LeO.ite ?_ ?_)
      | (with_reducible refine LeO.bind ?_ (fun _ => ?_))
      | exact ih0 _ _ _
      | exact LeO.none _
      | refine LeO.ite ?_ ?_
      | refine LeO.bind ?_ (fun _ => ?_)
set_option maxHeartbeats 8000000 in
set_option maxRecDepth 100000 in
theorem watchmanref21_SameLetters.calls (k : Nat) (A0 : Option Addr) (c0 : Nat) (l0 : List (S35)) (A1 : Option Addr) (c1 : Nat) (l1 : List (S35)) (r : Bool) (w : World) (hr0 : Kd.C k35 w A0 l0.length l0) (hc0 : l0.length ≤ c0) (hr1 : Kd.C k35 w A1 l1.length l1) (hc1 : l1.length ≤ c1) (h : watchmanref21_SameLetters.f k l0 l1 = some r) :
    Calls Try.prog 21 #[.slice A0 l0.length c0, .slice A1 l1.length c1] w fun e w' => e = .returned (.bool r) ∧ Drawn0 w w' := by
  have hu35 := Try.underlying35
  have HR0 := Aside0.mk hr0
  have HC0 := Aside0.mk hc0
  clear hr0 hc0
  have HR1 := Aside0.mk hr1
  have HC1 := Aside0.mk hc1
  clear hr1 hc1
  have H : (if (l0.length : Int) = (l1.length : Int) then (watchmanref21_SameLetters.l0 k l0 l1 0) else (some false)) = some r := h
  clear h
  by_cases c3 : (l0.length : Int) = (l1.length : Int)
  · rw [if_pos c3] at H
    have c3b0 : ((l0.length : Int) == (l1.length : Int)) = true := beq_iff_eq.mpr c3
    have c3b1 : ((l0.length : Int) != (l1.length : Int)) = false := bne_eq_false_iff_eq.mpr c3
    have c3b2 : (l0.length == l1.length) = true := by first | simpa using c3 | (simp at c3 ⊢; omega)
    clear c3
    have H' := Aside0.mk H
    clear H
    go_enter Try.func21, Try.ntmps21
    go_wp2
    repeat (go_quiet (fail); try go_wp2)
    go_loopg [5] k (fun kq v5 w' => ∃ (x5_1 : Int), v5 = .int .i64 x5_1 ∧ Aside0 (watchmanref21_SameLetters.l0 kq l0 l1 x5_1 = some r) ∧ Aside0 (kq ≤ k) ∧ Drawn0 w w')
    case atStart => exact ⟨(0), (by first | rfl | (simp; done) | (simp [*]; done)), H', ⟨Nat.le_refl _⟩, by repeat (first | exact Drawn0.refl _ | apply Drawn0.step)⟩
    case round =>
      clear H'
      try clear c1
      try clear c2
      try clear p2
      try clear c3
      try clear c3b0
      try clear c3b1
      try clear c3b2
      obtain ⟨x5_1, rfl, HA, HK1, ⟨m1, rfl⟩⟩ := hrel
      cases gk with
      | zero => exact absurd HA.out (by simp [watchmanref21_SameLetters.l0])
      | succ k1 =>
        have H := HA.out
        clear HA
        simp only [watchmanref21_SameLetters.l0] at H
        by_cases c4 : x5_1 < (l0.length : Int)
        · rw [if_pos c4] at H
          have c4b0 : decide (x5_1 < (l0.length : Int)) = true := decide_eq_true c4
          clear c4
          by_cases c5 : 0 ≤ x5_1
          · rw [if_pos c5] at H
            have c5b0 : decide (0 ≤ x5_1) = true := decide_eq_true c5
            clear c5
            by_cases c6 : x5_1 < (l1.length : Int)
            · rw [if_pos c6] at H
              have c6b0 : decide (x5_1 < (l1.length : Int)) = true := decide_eq_true c6
              clear c6
              by_cases c7 : (!(((rd_T35 l0 x5_1).f0) == ((rd_T35 l1 x5_1).f0)) || (!(((rd_T35 l0 x5_1).f1) == ((rd_T35 l1 x5_1).f1)) || (!(((rd_T35 l0 x5_1).f2) == ((rd_T35 l1 x5_1).f2)) || (!((((rd_T35 l0 x5_1).f3).toList) == (((rd_T35 l1 x5_1).f3).toList)))))) = true
              · rw [if_pos c7] at H
                have c7b0 : (!(((rd_T35 l0 x5_1).f0) == ((rd_T35 l1 x5_1).f0)) || (!(((rd_T35 l0 x5_1).f1) == ((rd_T35 l1 x5_1).f1)) || (!(((rd_T35 l0 x5_1).f2) == ((rd_T35 l1 x5_1).f2)) || (!((((rd_T35 l0 x5_1).f3).toList) == (((rd_T35 l1 x5_1).f3).toList)))))) = true := c7
                clear c7
                obtain rfl := Option.some.inj H
                have p233 : 0 ≤ (x5_1 : Int) := of_decide_eq_true (by first | (with_reducible assumption) | assumption)
                have q233 : x5_1 < (l0.length : Int) := of_decide_eq_true (by first | (with_reducible assumption) | assumption)
                obtain ⟨ad233, e233, hx233_0, hx233_1, hx233_2, hx233_3⟩ := at_T35 HR0.out x5_1 p233 q233
                cases e233
                replace p233 := eq_true p233
                replace q233 := eq_true q233
                have p234 : 0 ≤ (x5_1 : Int) := of_decide_eq_true (by first | (with_reducible assumption) | assumption)
                have q234 : x5_1 < (l1.length : Int) := of_decide_eq_true (by first | (with_reducible assumption) | assumption)
                obtain ⟨ad234, e234, hx234_0, hx234_1, hx234_2, hx234_3⟩ := at_T35 HR1.out x5_1 p234 q234
                cases e234
                replace p234 := eq_true p234
                replace q234 := eq_true q234
                go_wp2
                repeat (go_quiet (fail); try go_wp2)
                go_ret
                exact ⟨by first | rfl | (simp; done) | (simp [*]; done), by repeat (first | exact Drawn0.refl _ | apply Drawn0.step)⟩
              · rw [if_neg c7] at H
                have c7b0 : (!(((rd_T35 l0 x5_1).f0) == ((rd_T35 l1 x5_1).f0)) || (!(((rd_T35 l0 x5_1).f1) == ((rd_T35 l1 x5_1).f1)) || (!(((rd_T35 l0 x5_1).f2) == ((rd_T35 l1 x5_1).f2)) || (!((((rd_T35 l0 x5_1).f3).toList) == (((rd_T35 l1 x5_1).f3).toList)))))) = false := by simpa using c7
                clear c7
                have H' := Aside0.mk H
                clear H
                have p233 : 0 ≤ (x5_1 : Int) := of_decide_eq_true (by first | (with_reducible assumption) | assumption)
                have q233 : x5_1 < (l0.length : Int) := of_decide_eq_true (by first | (with_reducible assumption) | assumption)
                obtain ⟨ad233, e233, hx233_0, hx233_1, hx233_2, hx233_3⟩ := at_T35 HR0.out x5_1 p233 q233
                cases e233
                replace p233 := eq_true p233
                replace q233 := eq_true q233
                have p234 : 0 ≤ (x5_1 : Int) := of_decide_eq_true (by first | (with_reducible assumption) | assumption)
                have q234 : x5_1 < (l1.length : Int) := of_decide_eq_true (by first | (with_reducible assumption) | assumption)
                obtain ⟨ad234, e234, hx234_0, hx234_1, hx234_2, hx234_3⟩ := at_T35 HR1.out x5_1 p234 q234
                cases e234
                replace p234 := eq_true p234
                replace q234 := eq_true q234
                go_wp2
                repeat (go_quiet (fail); try go_wp2)
                go_roundg k1
                case measure => have := HK1.out; omega
                case rel => exact ⟨(wrap64 (x5_1 + 1)), (by first | rfl | (simp; done) | (simp [*]; done)), H', ⟨by have := HK1.out; omega⟩, by repeat (first | exact Drawn0.refl _ | apply Drawn0.step)⟩
            · rw [if_neg c6] at H
              exact absurd H (by simp)
          · rw [if_neg c5] at H
            exact absurd H (by simp)
        · rw [if_neg c4] at H
          have c4b0 : decide (x5_1 < (l0.length : Int)) = false := decide_eq_false c4
          clear c4
          obtain rfl := Option.some.inj H
          go_wp2
          repeat (go_quiet (fail); try go_wp2)
          go_ret
          exact ⟨by first | rfl | (simp; done) | (simp [*]; done), by repeat (first | exact Drawn0.refl _ | apply Drawn0.step)⟩
  · rw [if_neg c3] at H
    have c3b0 : ((l0.length : Int) == (l1.length : Int)) = false := beq_eq_false_iff_ne.mpr c3
    have c3b1 : ((l0.length : Int) != (l1.length : Int)) = true := bne_iff_ne.mpr c3
    have c3b2 : (l0.length == l1.length) = false := by first | simpa using c3 | (simp at c3 ⊢; omega)
    obtain rfl := Option.some.inj H
    go_enter Try.func21, Try.ntmps21
    go_wp2
    repeat (go_quiet (fail); try go_wp2)
    go_ret
    exact ⟨by first | rfl | (simp; done) | (simp [*]; done), by repeat (first | exact Drawn0.refl _ | apply Drawn0.step)⟩

end Go.Proofs.Ytofbkpdpgmjllaa.F
