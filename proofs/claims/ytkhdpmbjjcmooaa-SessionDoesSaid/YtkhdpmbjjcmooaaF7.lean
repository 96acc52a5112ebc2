-- Written by a program of this session (xprint.py), out of the translation and of contracts proved by hand.
import Derived.Test.YtkhdpmbjjcmooaaF0
namespace Go.Proofs.Ytkhdpmbjjcmooaa.F
open Go.RowKit Go.Proofs.YtkhdpmbjjcmooaaV.PrintWords Go.Proofs.YtkhdpmbjjcmooaaV.PrintLast Go.Proofs.YtkhdpmbjjcmooaaV.PrintMore
attribute [local go_sem] max2_int min2_int max_two min_two max_three min_three max_four min_four   -- for this text's walks alone
set_option linter.unusedVariables false
set_option linter.unusedSimpArgs false

/-! ### api_Client_37: function 37 -/
theorem R_tail {α : Type} {d : Kd α} {e : Nat} {W : World} {base : Nat} {ok : Nat → Prop} {g m c : Nat} {xs : List α} (h : d.R e W base ok (.slice (some ⟨g, 0, none⟩) m c) xs) (news : List Value) (hn : m * d.sz + news.length ≤ c * d.sz) :
    (∀ j, j < news.length → (W.cell? ⟨g, m * d.sz + j, none⟩).isSome = true) ∧ (∀ j, W.frozen? ⟨g, j, none⟩ = false) ∧ d.R e (W.setCells g (m * d.sz) news) base ok (.slice (some ⟨g, 0, none⟩) m c) xs ∧ W.grownBy (W.setCells g (m * d.sz) news) (some g) := by
  obtain ⟨hok, inner, hown, hr⟩ := h
  rcases hown.2 with ⟨hv, _⟩ | ⟨g', cap', cur, hv, hb, hh, hnc, hcm, hcs, htake⟩
  · cases hv
  injection hv with ha hl hc
  injection ha with ha
  injection ha with hg
  subst hg; subst hc; subst hl
  have hfit : xs.length * d.sz + news.length ≤ cur.size := by rw [hcs]; exact hn
  obtain ⟨cur', h3, h4, h5⟩ := setCells_row news (xs.length * d.sz) W cur hh hfit
  obtain ⟨s1, s2, s3, s4⟩ := setCells_same g news (xs.length * d.sz) W
  have hfar : ∀ k', k' ≠ g → (W.setCells g (xs.length * d.sz) news).heap[k']? = W.heap[k']? := fun k' hk' => setCells_far news _ k' hk'
  refine ⟨fun j hj => ?_, fun j => blk_frozen hh j, ⟨hok, inner, ⟨hown.1, .inr ⟨g, c, cur', rfl, hb, h3, hnc, hcm, by rw [h4, hcs], ?_⟩⟩, hr.imp_ (fun p q hp => d.M_move (fun k' hk' => hfar k' (fun he => hk'.2 (by rw [he]; simp [Value.ownBlock]))) hp)⟩, ⟨s1, s2, s3, by rw [s4]; exact Nat.le_refl _, fun k' _ hk' => hfar k' (fun he => hk' (by rw [he]))⟩⟩
  · rw [cell_of_row W g _ cur e (0, 0) hh]
    simp; omega
  · have hle : xs.length * d.sz ≤ cur.size := Nat.le_trans (Nat.le_add_right _ _) hfit
    have hx : xs.length * d.sz ≤ (cur.toList.take (xs.length * d.sz)).length := by rw [List.length_take, Array.length_toList]; exact Nat.le_min.2 ⟨Nat.le_refl _, hle⟩
    rw [h5, List.append_assoc, List.take_append_of_le_length hx, List.take_take, Nat.min_self]
    exact htake
theorem S_tail {α : Type} {d : Kd α} {e : Nat} {W : World} {base : Nat} {ok : Nat → Prop} {g m c : Nat} {xs : List α} (h : Kd.S d e W base ok (.slice (some ⟨g, 0, none⟩) m c) xs) (news : List Value) (hn : m * d.sz + news.length ≤ c * d.sz) :
    (∀ j, j < news.length → (W.cell? ⟨g, m * d.sz + j, none⟩).isSome = true) ∧ (∀ j, W.frozen? ⟨g, j, none⟩ = false) ∧ Kd.S d e (W.setCells g (m * d.sz) news) base ok (.slice (some ⟨g, 0, none⟩) m c) xs ∧ W.grownBy (W.setCells g (m * d.sz) news) (some g) := by
  obtain ⟨f, h⟩ := h
  obtain ⟨h1, h2, h3, h4⟩ := R_tail h news hn
  exact ⟨h1, h2, ⟨f, h3⟩, h4⟩
theorem clear_Client (w1 w2 : World) (g o c : Nat) (hst : (storeCells ⟨g, o, none⟩ [.int .i64 0, .int .i64 0, .int .i64 0, .int .i64 0, .int .i64 0, .slice none 0 0] 0).run Try.prog w1 = .ok () w2) :
    (Builtin.clear_ #[22] 0 #[.slice (some ⟨g, o, none⟩) 1 c]).run Try.prog w1 = .ok (.tuple #[]) w2 := by
  have hz : (zeroValue 39).run Try.prog w1 = .ok (.agg #[.int .i64 0, .int .i64 0, .int .i64 0, .int .i64 0, .int .i64 0, .slice none 0 0]) w1 := by go_simp
  have e0 : (Builtin.zeroCells (Value.agg #[.int .i64 0, .int .i64 0, .int .i64 0, .int .i64 0, .int .i64 0, .slice none 0 0]).cells 1).toList = [.int .i64 0, .int .i64 0, .int .i64 0, .int .i64 0, .int .i64 0, .slice none 0 0] := by simp [Builtin.zeroCells, Value.cells, Array.range_succ]
  simp only [Builtin.clear_, List.getElem?_toArray, List.getElem?_cons_zero, Sem.run_bind, run_underlying Try.underlying22, Result.andThen_ok, hz, e0]
  rw [hst]
  rfl
set_option maxHeartbeats 8000000 in
set_option maxRecDepth 100000 in
theorem delete_Client_S.calls {base : Nat} {ok : Nat → Prop} {w0 W : World} {g n c : Nat} {xs : List S39} (k : Int) (HO : Kd.S k39 39 W base ok (.slice (some ⟨g, 0, none⟩) n c) xs) (h0 : 0 ≤ k) (hk : k < (n : Int)) (HB : Below base w0 W) (hbase : base ≤ W.heap.size) :
    Calls Try.prog 37 #[.slice (some ⟨g, 0, none⟩) n c, .int .i64 k, .int .i64 (wrap64 (k + 1))] W fun e w1 => e = .returned (.slice (some ⟨g, 0, none⟩) (n - 1) c) ∧ Kd.S k39 39 w1 base ok (.slice (some ⟨g, 0, none⟩) (n - 1) c) (xs.eraseIdx k.toNat) ∧ Below base w0 w1 ∧ W.drew.grownBy w1 (some g) := by
  have hu := Try.underlying39
  obtain ⟨m, rfl⟩ := Int.eq_ofNat_of_zero_le h0
  have hc := (Kd.S_reads' HO).2.1
  have hbig := (Kd.S_reads' HO).2.2.2.1
  have hlen := (Kd.S_reads' HO).1
  have hm : m < n := by omega
  have mixed : Try.prog.follows .mixedOrders = true := by kernel_rfl
  obtain ⟨j, hj⟩ : ∃ j, j = m + 1 := ⟨_, rfl⟩
  have hw : wrap64 ((m : Int) + 1) = (j : Int) := by unfold wrap64; omega
  rw [hw]
  have HO1 := Aside0.mk HO
  have HB1 := Aside0.mk HB
  have HJ := Aside0.mk hj
  have i1 : m < j := by omega
  have i2 : j ≤ n := by omega
  have i3 : m ≤ c := by omega
  have i4 : j ≤ c := by omega
  have i5 : m ≤ n := by omega
  have i6 : ¬ m = j := by omega
  obtain ⟨n1, hn1⟩ : ∃ n1, n1 = n - 1 := ⟨_, rfl⟩
  have i7 : n1 ≤ n := by omega
  have i8 : n1 ≤ c := by omega
  have i9 : ¬ c = n1 := by omega
  have i10 : n - n1 = 1 := by omega
  have HN := Aside0.mk hn1
  have HL := Aside0.mk hlen
  clear HO HB h0 hk hw hlen hj
  rw [← hn1]
  clear hn1
  go_enter Try.func37, Try.ntmps37
  go_wp2_with fail
  go_region_law_o (refine Kd.S_delete_step (w0 := w0) k39 base (by rfl) (.tmp 22) (.tmp 25) 22 39 rfl Try.underlying22 (by kernel_rfl) (g := g) (n := n) (c := c) (k := m) rfl rfl ?hA ?hm (Kd.S_drew HO1.out) ?hk (below_drew HB1.out) hbase ?_; (case hA => rw [← HJ.out]; simp only [Option.map_some, Addr.add_lit, Nat.zero_add]; rfl); (case hm => have := HJ.out; omega); (case hk => omega); intro w1 ho hb hg)
  obtain ⟨t1, t2, t3, t4⟩ := S_tail ho [.int .i64 0, .int .i64 0, .int .i64 0, .int .i64 0, .int .i64 0, .slice none 0 0] (by show (n - 1) * 6 + 6 ≤ c * 6; omega)
  rw [← HN.out] at ho t1 t3 t4 ⊢
  have hsz : k39.sz = 6 := rfl
  rw [hsz] at t1 t3 t4
  have hst := run_storeCells_cells (P := Try.prog) g (n1 * 6) [.int .i64 0, .int .i64 0, .int .i64 0, .int .i64 0, .int .i64 0, .slice none 0 0] 0 w1 (fun j hj => t1 j hj) (fun j _ => t2 _) (by intro v hv; simp only [List.mem_cons, List.not_mem_nil, or_false] at hv; rcases hv with rfl | rfl | rfl | rfl | rfl | rfl <;> rfl)
  have hg2 := hg.trans t4
  have hb2 := hb.grown t4 (Nat.le_trans hbase (by obtain ⟨_, _, _, h_, _⟩ := hg; exact h_)) (fun k hk => by injection hk with hk; subst hk; exact Kd.S_base ho _ (by simp [Value.ownBlock]))
  have HT3 := Aside0.mk t3
  have HG := Aside0.mk hg2
  have HB2 := Aside0.mk hb2
  clear ho t1 t2 t3 t4 hg hg2 hb hb2
  have hcl := clear_Client w1 _ g (n1 * 6) (c - n1) hst
  clear hst
  simp only [Nat.add_zero] at hcl
  generalize w1.setCells g (n1 * 6) [.int .i64 0, .int .i64 0, .int .i64 0, .int .i64 0, .int .i64 0, .slice none 0 0] = w2 at hcl HT3 HG HB2
  go_wp2
  all_goals go_ret
  all_goals first | exact ⟨by simp, HT3.out, HB2.out, HG.out⟩ | (have e_ : c = j := (by assumption); subst e_; exact ⟨by simp, HT3.out, HB2.out, HG.out⟩)

end Go.Proofs.Ytkhdpmbjjcmooaa.F
