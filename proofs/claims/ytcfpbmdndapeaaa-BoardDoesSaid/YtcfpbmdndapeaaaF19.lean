-- Written by a program of this session (xprint.py), out of the translation and of contracts proved by hand.
import Derived.Test.YtcfpbmdndapeaaaF0
import Derived.Test.YtcfpbmdndapeaaaF17
import Derived.Test.YtcfpbmdndapeaaaF18
namespace Go.Proofs.Ytcfpbmdndapeaaa.F
open Go.RowKit Go.Proofs.YtcfpbmdndapeaaaV.PrintWords Go.Proofs.YtcfpbmdndapeaaaV.PrintLast Go.Proofs.YtcfpbmdndapeaaaV.PrintMore
attribute [local go_sem] max2_int min2_int max_two min_two max_three min_three max_four min_four   -- for this text's walks alone
set_option linter.unusedVariables false
set_option linter.unusedSimpArgs false

/-! ### api_Alarm_60: function 60 -/
theorem R_tail {α : Type} {d : Kd α} {e : Nat} {W : World} {base : Nat} {ok : Nat → Prop} {g m c : Nat} {xs : List α} (h : d.R e W base ok (.slice (some ⟨g, 0, none⟩) m c) xs) (news : List Value) (hn : m * d.sz + news.length ≤ c * d.sz) :
    (∀ j, j < news.length → (W.cell? ⟨g, m * d.sz + j, none⟩).isSome = true) ∧ (∀ j, W.frozen? ⟨g, j, none⟩ = false) ∧ d.R e (W.setCells g (m * d.sz) news) base ok (.slice (some ⟨g, 0, none⟩) m c) xs ∧ W.grownBy (W.setCells g (m * d.sz) news) (some g) := by
  obtain ⟨hok, inner, hown, hr⟩ := h
  rcases hown.2 with ⟨hv, _⟩ | ⟨g', cap', cur, hv, hb, hh, hnc, hcm, hcs, htake⟩
  · cases hv
  injection hv with ha hl hc
  injection ha with ha
  injection ha with hg
  subst hg; subst hc; subst hl
  have hfit : xs.length * d.sz + news.length ≤ cur.size := by rw [hcs]; exact hn
  obtain ⟨cur', h3, h4, h5⟩ := setCells_row news (xs.length * d.sz) W cur hh hfit
  obtain ⟨s1, s2, s3, s4⟩ := setCells_same g news (xs.length * d.sz) W
  have hfar : ∀ k', k' ≠ g → (W.setCells g (xs.length * d.sz) news).heap[k']? = W.heap[k']? := fun k' hk' => setCells_far news _ k' hk'
  refine ⟨fun j hj => ?_, fun j => blk_frozen hh j, ⟨hok, inner, ⟨hown.1, .inr ⟨g, c, cur', rfl, hb, h3, hnc, hcm, by rw [h4, hcs], ?_⟩⟩, hr.imp_ (fun p q hp => d.M_move (fun k' hk' => hfar k' (fun he => hk'.2 (by rw [he]; simp [Value.ownBlock]))) hp)⟩, ⟨s1, s2, s3, by rw [s4]; exact Nat.le_refl _, fun k' _ hk' => hfar k' (fun he => hk' (by rw [he]))⟩⟩
  · rw [cell_of_row W g _ cur e (0, 0) hh]
    simp; omega
  · have hle : xs.length * d.sz ≤ cur.size := Nat.le_trans (Nat.le_add_right _ _) hfit
    have hx : xs.length * d.sz ≤ (cur.toList.take (xs.length * d.sz)).length := by rw [List.length_take, Array.length_toList]; exact Nat.le_min.2 ⟨Nat.le_refl _, hle⟩
    rw [h5, List.append_assoc, List.take_append_of_le_length hx, List.take_take, Nat.min_self]
    exact htake
theorem Alarm_zeros_one (m : Nat) : ∀ v ∈ (Builtin.zeroCells (Value.agg #[.int .i64 0, .int .i64 0, .int .i64 0, .int .i64 0, .int .i64 0, .int .i64 0]).cells m).toList, v.oneCell' = true := by
  intro v hv
  simp only [Builtin.zeroCells, Value.cells, Array.toList_map, List.mem_map] at hv
  obtain ⟨i, _, rfl⟩ := hv
  have h6 : i % 6 < 6 := Nat.mod_lt _ (by decide)
  show ((#[.int .i64 0, .int .i64 0, .int .i64 0, .int .i64 0, .int .i64 0, .int .i64 0] : Array Value)[i % 6]!).oneCell' = true
  generalize i % 6 = q at h6
  match q, h6 with
  | 0, _ => rfl
  | 1, _ => rfl
  | 2, _ => rfl
  | 3, _ => rfl
  | 4, _ => rfl
  | 5, _ => rfl
theorem Alarm_zeros_len (m : Nat) : (Builtin.zeroCells (Value.agg #[.int .i64 0, .int .i64 0, .int .i64 0, .int .i64 0, .int .i64 0, .int .i64 0]).cells m).toList.length = m * 6 := by
  simp [Builtin.zeroCells, Value.cells]
theorem Alarm_take_set {α : Type} : ∀ (l : List α) (i : Nat) (y : α), i < l.length → (l.set i y).take (i + 1) = l.take i ++ [y]
  | [], _, _, h => absurd h (by simp)
  | x :: l, 0, y, _ => by simp
  | x :: l, i + 1, y, h => by simp [Alarm_take_set l i y (by simpa using h)]
theorem Alarm_drop_set {α : Type} : ∀ (l : List α) (i j : Nat) (y : α), i < j → (l.set i y).drop j = l.drop j
  | [], _, _, _, _ => by simp
  | x :: l, 0, j + 1, y, _ => by simp
  | x :: l, i + 1, j + 1, y, h => by simp [Alarm_drop_set l i j y (by omega)]
  | x :: l, i, 0, y, h => absurd h (by omega)
theorem Alarm_clear (w1 w2 : World) (g o m c : Nat) (hm : 0 < m) (hst : (storeCells ⟨g, o, none⟩ (Builtin.zeroCells (Value.agg #[.int .i64 0, .int .i64 0, .int .i64 0, .int .i64 0, .int .i64 0, .int .i64 0]).cells m).toList 0).run Try.prog w1 = .ok () w2) :
    (Builtin.clear_ #[22] 0 #[.slice (some ⟨g, o, none⟩) m c]).run Try.prog w1 = .ok (.tuple #[]) w2 := by
  have hz : (zeroValue 28).run Try.prog w1 = .ok (.agg #[.int .i64 0, .int .i64 0, .int .i64 0, .int .i64 0, .int .i64 0, .int .i64 0]) w1 := by go_simp
  obtain ⟨q, rfl⟩ : ∃ q, m = q + 1 := ⟨m - 1, by omega⟩
  simp only [Builtin.clear_, List.getElem?_toArray, List.getElem?_cons_zero, Sem.run_bind, run_underlying Try.underlying22, Result.andThen_ok, hz]
  rw [hst]
  rfl
theorem Alarm_filter_none (p : S28 → Bool) (l : List S28) (h : ix_Alarm p l = -1) : l.filter (fun x => !p x) = l := by
  rw [List.filter_eq_self]
  intro x hx
  unfold ix_Alarm at h
  cases e : l.findIdx? p with
  | none => rw [List.findIdx?_eq_none_iff] at e; rw [e x hx]; rfl
  | some i => rw [e] at h; exact absurd h (by show ¬ (i : Int) = -1; omega)
theorem Alarm_ix_some (p : S28 → Bool) (l : List S28) (h : ¬ ix_Alarm p l = -1) : ∃ i : Nat, ∃ hi : i < l.length, ix_Alarm p l = (i : Int) ∧ p l[i] = true ∧ l.take i = (l.take i).filter (fun x => !p x) := by
  unfold ix_Alarm at h ⊢
  cases e : l.findIdx? p with
  | none => rw [e] at h; exact absurd rfl h
  | some i =>
    rw [List.findIdx?_eq_some_iff_getElem] at e
    obtain ⟨hi, h1, h2⟩ := e
    refine ⟨i, hi, rfl, h1, ?_⟩
    symm
    rw [List.filter_eq_self]
    intro x hx
    obtain ⟨j, hj, rfl⟩ := List.mem_take_iff_getElem.1 hx
    have := h2 j (by omega)
    simpa using this
set_option maxHeartbeats 16000000 in
set_option maxRecDepth 100000 in
theorem delfunc_Alarm.calls {base : Nat} {ok : Nat → Prop} {w0 W : World} (v : Value) (xs : List S28) (p : S28 → Bool) (g : Nat) (lb : Array Value) (eg : ∀ args w, (callFunc g args).run Try.prog w = .ok (.enter g args) w)
    (HO : Kd.R k28 28 W base ok v xs) (HB : Below base w0 W) (hbase : base ≤ W.heap.size)
    (hp : ∀ (W1 : World) (x : S28), Kept W W1 (fun k => some k = v.ownBlock) → Calls Try.prog g (#[.agg #[.int .i64 x.f0.f0, .int .i64 x.f0.f1, .int .i64 x.f1, .int .i64 x.f2, .int .i64 x.f3, .int .i64 x.f4]] ++ lb) W1 fun e w' => e = .returned (.bool (p x)) ∧ Below W1.heap.size W1 w') :
    Calls Try.prog 60 #[v, .func (.func g) #[] lb] W fun e w' => ∃ v0_ : Value, e = .returned v0_ ∧ Kd.R k28 28 w' base ok v0_ (xs.filter (fun x => !p x)) ∧ Below base w0 w' := by
  have hu_ := Try.underlying28
  obtain ⟨A, c, rfl, hc, hC⟩ := Kd.R_reads HO
  have hcon := ixfunc_Alarm.calls p g lb eg A c xs W (fun W1 x hb => (hp W1 x (Kept.of_below hb _)).mono (fun e w' h => ⟨h.1, hb.trans (h.2.mono hb.size)⟩)) hC
  by_cases hix : ix_Alarm p xs = -1
  · rw [Alarm_filter_none p xs hix]
    rw [hix] at hcon
    clear hp hix
    have HO1 := Aside0.mk HO
    have HB1 := Aside0.mk HB
    clear HO HB hC
    go_enter Try.func60, Try.ntmps60
    go_wp2_with (go_at_call 58; refine hcon.mono ?_; rintro e w1 ⟨rfl, hb⟩)
    go_ret
    exact ⟨_, rfl, Kd.R_below HO1.out hb, HB1.out.trans (hb.mono hbase)⟩
  · obtain ⟨i0, hi0, hixe, hpi, htk⟩ := Alarm_ix_some p xs hix
    rw [hixe] at hcon
    clear hix hixe
    obtain ⟨gb, cap_, ev_, hgb_, _, _⟩ := Kd.R_form HO (by omega)
    injection ev_ with ea_ eb_ ec_
    subst ec_
    subst ea_
    clear eb_
    have hbig := (Kd.R_reads' HO).2.2.2.1
    have HO1 := Aside0.mk HO
    have HB1 := Aside0.mk HB
    have HP := Aside0.mk hp
    have TK := Aside0.mk htk
    have PI := Aside0.mk hpi
    have n1 : ¬ (i0 : Int) = -1 := by omega
    have n2 : ((i0 : Int) == -1) = false := by rw [beq_eq_false_iff_ne]; exact n1
    clear HO HB hC hp htk hpi
    go_enter Try.func60, Try.ntmps60
    go_wp2_with (go_at_call 58; refine hcon.mono ?_; rintro e w1 ⟨rfl, hb⟩; have HB2 := Aside0.mk (HB1.out.trans (hb.mono hbase)); have HO2 := Aside0.mk (Kd.R_below HO1.out hb); have HK2 := Aside0.mk (Kept.of_below hb (fun k => some k = (Value.slice (some ⟨gb, 0, none⟩) xs.length c).ownBlock)); clear hb)
    go_loopg [5, 6] xs.length (fun gg s5 s6 wr => ∃ ii jj : Nat, ii < jj ∧ jj ≤ xs.length ∧ xs.length - jj ≤ gg ∧ s5 = .int .i64 ii ∧ s6 = .int .i64 jj ∧ Aside0 (∃ ys : List S28, Kd.R k28 28 wr base ok (.slice (some ⟨gb, 0, none⟩) xs.length c) ys ∧ ys.take ii = (xs.take jj).filter (fun x => !p x) ∧ ys.drop jj = xs.drop jj) ∧ Aside0 (Kept W wr (fun k => some k = (Value.slice (some ⟨gb, 0, none⟩) xs.length c).ownBlock)) ∧ Aside0 (Below base w0 wr))
    case atStart =>
      refine ⟨i0, i0 + 1, by omega, by omega, by omega, rfl, by first | rfl | (congr 1; go_num) | go_num, ⟨xs, HO2.out, ?_, rfl⟩, HK2, HB2⟩
      rw [List.take_succ_eq_append_getElem hi0, List.filter_append, ← TK.out]
      simp [PI.out]
    case round =>
      obtain ⟨ii, jj, hij, hjn, hg, rfl, rfl, ⟨ys, hO, hT, hD⟩, HK, HBr⟩ := hrel
      clear HO2 HK2 HB2
      have hyl : xs.length = ys.length := (Kd.R_reads' hO).1
      have hcc_ : xs.length ≤ c := (Kd.R_reads' hO).2.1
      have HO3 := Aside0.mk hO
      have HT := Aside0.mk hT
      have HD := Aside0.mk hD
      by_cases hlt : jj < xs.length
      · have hltz : (jj : Int) < (xs.length : Int) := by omega
        have hy : rd_T28 ys (jj : Int) = xs[jj] := by
          have e1 := List.drop_eq_getElem_cons (l := ys) (i := jj) (by omega)
          have e2 := List.drop_eq_getElem_cons (l := xs) (i := jj) hlt
          rw [hD, e2] at e1
          injection e1 with e1 _
          rw [e1]
          simp [rd_T28, List.getD_eq_getElem?_getD, List.getElem?_eq_getElem (show jj < ys.length by omega)]
        obtain ⟨ad, e0, hx0, hx1, hx2, hx3, hx4, hx5⟩ := at_T28 (Kd.R_reads' hO).2.2 (jj : Int) (by omega) (by omega)
        cases e0
        rw [hy] at hx0 hx1 hx2 hx3 hx4 hx5
        simp only [Int.toNat_natCast, Addr.add_lit, Nat.zero_add] at hx0 hx1 hx2 hx3 hx4 hx5
        have HYL := Aside0.mk hyl
        generalize hye : xs[jj] = y at hx0 hx1 hx2 hx3 hx4 hx5 hy
        have Y := Aside0.mk hye
        clear hy hye hO hT hD hyl
        have hstep : ∀ w3 : World, Kept W w3 (fun k => some k = (Value.slice (some ⟨gb, 0, none⟩) xs.length c).ownBlock) → _ := fun w3 h3 => HP.out w3 y h3
        cases hq : p y with
        | true =>
          have Q := Aside0.mk hq
          rw [hq] at hstep
          clear hq
          go_wp2_with (first | ((with_reducible refine gate_dst (N := 7) rfl ?_); refine box_event ?hg (N := 7) ?hd (cs := #[.int .i64 0, .int .i64 0, .int .i64 0, .int .i64 0, .int .i64 0, .int .i64 0]) (t := 28) ?hr ?_; (case hd => rfl); (case hg => rfl); (case hr => first | (go_simp; done) | (go_simp; rfl)); intro gbV hg w2 hbox hb; have GV := Aside0.mk (show W.heap.size ≤ gbV from by rw [hg]; exact HK.out.1); have GB := Aside0.mk (show base ≤ gbV from Nat.le_trans hbase GV.out); have n0_ := Aside0.mk (Kd.R_below (Kd.R_elderB HO3.out gbV (Nat.le_of_eq hg.symm)) hb); have n1_ := Aside0.mk (HK.out.below hb); have n2_ := Aside0.mk (HBr.out.trans (hb.mono (Nat.le_trans hbase HK.out.1))); have n3_ := Aside0.mk hbox; clear HO3 HK HBr hbox hb hg; have HO3 := n0_; have HK := n1_; have HBr := n2_; have BKV := n3_; clear n0_ n1_ n2_ n3_; have hz0 : w2.cell? ⟨gbV, 0, none⟩ = some (.int .i64 0) := (blk_cell BKV.out 0).trans rfl; have hw0 := blk_frozen BKV.out 0; have hz1 : w2.cell? ⟨gbV, 1, none⟩ = some (.int .i64 0) := (blk_cell BKV.out 1).trans rfl; have hw1 := blk_frozen BKV.out 1; have hz2 : w2.cell? ⟨gbV, 2, none⟩ = some (.int .i64 0) := (blk_cell BKV.out 2).trans rfl; have hw2 := blk_frozen BKV.out 2; have hz3 : w2.cell? ⟨gbV, 3, none⟩ = some (.int .i64 0) := (blk_cell BKV.out 3).trans rfl; have hw3 := blk_frozen BKV.out 3; have hz4 : w2.cell? ⟨gbV, 4, none⟩ = some (.int .i64 0) := (blk_cell BKV.out 4).trans rfl; have hw4 := blk_frozen BKV.out 4; have hz5 : w2.cell? ⟨gbV, 5, none⟩ = some (.int .i64 0) := (blk_cell BKV.out 5).trans rfl; have hw5 := blk_frozen BKV.out 5) | ((with_reducible refine gate_store (t := 28) (p := 7) rfl ?_); refine store_event (t := 28) (p := 7) (v := ?vo_) (w1 := ((((((w2.setCell ⟨gbV, 0, none⟩ (.int .i64 y.f0.f0)).setCell ⟨gbV, 1, none⟩ (.int .i64 y.f0.f1)).setCell ⟨gbV, 2, none⟩ (.int .i64 y.f1)).setCell ⟨gbV, 3, none⟩ (.int .i64 y.f2)).setCell ⟨gbV, 4, none⟩ (.int .i64 y.f3)).setCell ⟨gbV, 5, none⟩ (.int .i64 y.f4))) ?hg ?ho ?hn ?hr ?_; (case ho => rfl); (case hg => rfl); (case hn => rfl); (case hr => first | (go_simp; done) | (go_simp; rfl)); intro w3 hw; have n0_ : Aside0 (Kd.R k28 28 w3 base ok (.slice (some ⟨gb, 0, none⟩) xs.length c) ys) := ⟨by rw [hw]; exact Kd.R_mono (Kd.R_far (p := ⟨gbV, 5, none⟩) (Kd.R_far (p := ⟨gbV, 4, none⟩) (Kd.R_far (p := ⟨gbV, 3, none⟩) (Kd.R_far (p := ⟨gbV, 2, none⟩) (Kd.R_far (p := ⟨gbV, 1, none⟩) (Kd.R_far (p := ⟨gbV, 0, none⟩) HO3.out (fun _ hk => hk.2) (.int .i64 y.f0.f0)) (fun _ hk => hk.2) (.int .i64 y.f0.f1)) (fun _ hk => hk.2) (.int .i64 y.f1)) (fun _ hk => hk.2) (.int .i64 y.f2)) (fun _ hk => hk.2) (.int .i64 y.f3)) (fun _ hk => hk.2) (.int .i64 y.f4)) (fun _ hk => hk.1)⟩; have n1_ : Aside0 (Kept W w3 (fun k => some k = (Value.slice (some ⟨gb, 0, none⟩) xs.length c).ownBlock)) := ⟨by rw [hw]; exact Kept.setCell (Kept.setCell (Kept.setCell (Kept.setCell (Kept.setCell (Kept.setCell (HK.out) (.inr GV.out) _) (.inr GV.out) _) (.inr GV.out) _) (.inr GV.out) _) (.inr GV.out) _) (.inr GV.out) _⟩; have n2_ : Aside0 (Below base w0 w3) := ⟨by rw [hw]; exact Below.setCell (p := ⟨gbV, 5, none⟩) (Below.setCell (p := ⟨gbV, 4, none⟩) (Below.setCell (p := ⟨gbV, 3, none⟩) (Below.setCell (p := ⟨gbV, 2, none⟩) (Below.setCell (p := ⟨gbV, 1, none⟩) (Below.setCell (p := ⟨gbV, 0, none⟩) (HBr.out) GB.out _) GB.out _) GB.out _) GB.out _) GB.out _) GB.out _⟩; have n3_ : Aside0 (w3.heap[gbV]? = some (.cells #[.int .i64 y.f0.f0, .int .i64 y.f0.f1, .int .i64 y.f1, .int .i64 y.f2, .int .i64 y.f3, .int .i64 y.f4] 28 (0, 0))) := ⟨by rw [hw]; exact (by refine blk_put (cs := #[.int .i64 y.f0.f0, .int .i64 y.f0.f1, .int .i64 y.f1, .int .i64 y.f2, .int .i64 y.f3, .int .i64 0]) ?_ 5 _ rfl; refine blk_put (cs := #[.int .i64 y.f0.f0, .int .i64 y.f0.f1, .int .i64 y.f1, .int .i64 y.f2, .int .i64 0, .int .i64 0]) ?_ 4 _ rfl; refine blk_put (cs := #[.int .i64 y.f0.f0, .int .i64 y.f0.f1, .int .i64 y.f1, .int .i64 0, .int .i64 0, .int .i64 0]) ?_ 3 _ rfl; refine blk_put (cs := #[.int .i64 y.f0.f0, .int .i64 y.f0.f1, .int .i64 0, .int .i64 0, .int .i64 0, .int .i64 0]) ?_ 2 _ rfl; refine blk_put (cs := #[.int .i64 y.f0.f0, .int .i64 0, .int .i64 0, .int .i64 0, .int .i64 0, .int .i64 0]) ?_ 1 _ rfl; refine blk_put (cs := #[.int .i64 0, .int .i64 0, .int .i64 0, .int .i64 0, .int .i64 0, .int .i64 0]) ?_ 0 _ rfl; exact BKV.out)⟩; clear HO3 HK HBr BKV hw hz0 hw0 hz1 hw1 hz2 hw2 hz3 hw3 hz4 hw4 hz5 hw5; have HO3 := n0_; have HK := n1_; have HBr := n2_; have BKV := n3_; clear n0_ n1_ n2_ n3_; have hv0 : w3.cell? ⟨gbV, 0, none⟩ = some (.int .i64 y.f0.f0) := (blk_cell BKV.out 0).trans rfl; have hv1 : w3.cell? ⟨gbV, 1, none⟩ = some (.int .i64 y.f0.f1) := (blk_cell BKV.out 1).trans rfl; have hv2 : w3.cell? ⟨gbV, 2, none⟩ = some (.int .i64 y.f1) := (blk_cell BKV.out 2).trans rfl; have hv3 : w3.cell? ⟨gbV, 3, none⟩ = some (.int .i64 y.f2) := (blk_cell BKV.out 3).trans rfl; have hv4 : w3.cell? ⟨gbV, 4, none⟩ = some (.int .i64 y.f3) := (blk_cell BKV.out 4).trans rfl; have hv5 : w3.cell? ⟨gbV, 5, none⟩ = some (.int .i64 y.f4) := (blk_cell BKV.out 5).trans rfl) | (go_at_fn g; refine (hstep w3 HK.out).mono ?_; rintro e w4 ⟨rfl, hb⟩; have n0_ := Aside0.mk (Kd.R_below HO3.out hb); have n1_ := Aside0.mk (HK.out.below hb); have n2_ := Aside0.mk (HBr.out.trans (hb.mono (Nat.le_trans hbase HK.out.1))); clear HO3 HK HBr; have HO3 := n0_; have HK := n1_; have HBr := n2_; clear n0_ n1_ n2_ hb))
          go_roundg (xs.length - (jj + 1))
          case measure => omega
          case rel =>
            refine ⟨ii, jj + 1, by omega, by omega, by omega, rfl, by first | rfl | (congr 1; go_num) | go_num, ⟨ys, HO3.out, ?_, ?_⟩, HK, HBr⟩
            · rw [HT.out, List.take_succ_eq_append_getElem hlt, List.filter_append, Y.out]; simp [Q.out]
            · rw [List.drop_eq_getElem_cons (show jj < ys.length by have := HYL.out; omega), List.drop_eq_getElem_cons hlt] at HD
              have := HD.out
              injection this
        | false =>
          have Q := Aside0.mk hq
          rw [hq] at hstep
          clear hq
          go_wp2_with (first | ((with_reducible refine gate_dst (N := 7) rfl ?_); refine box_event ?hg (N := 7) ?hd (cs := #[.int .i64 0, .int .i64 0, .int .i64 0, .int .i64 0, .int .i64 0, .int .i64 0]) (t := 28) ?hr ?_; (case hd => rfl); (case hg => rfl); (case hr => first | (go_simp; done) | (go_simp; rfl)); intro gbV hg w2 hbox hb; have GV := Aside0.mk (show W.heap.size ≤ gbV from by rw [hg]; exact HK.out.1); have GB := Aside0.mk (show base ≤ gbV from Nat.le_trans hbase GV.out); have n0_ := Aside0.mk (Kd.R_below (Kd.R_elderB HO3.out gbV (Nat.le_of_eq hg.symm)) hb); have n1_ := Aside0.mk (HK.out.below hb); have n2_ := Aside0.mk (HBr.out.trans (hb.mono (Nat.le_trans hbase HK.out.1))); have n3_ := Aside0.mk hbox; clear HO3 HK HBr hbox hb hg; have HO3 := n0_; have HK := n1_; have HBr := n2_; have BKV := n3_; clear n0_ n1_ n2_ n3_; have hz0 : w2.cell? ⟨gbV, 0, none⟩ = some (.int .i64 0) := (blk_cell BKV.out 0).trans rfl; have hw0 := blk_frozen BKV.out 0; have hz1 : w2.cell? ⟨gbV, 1, none⟩ = some (.int .i64 0) := (blk_cell BKV.out 1).trans rfl; have hw1 := blk_frozen BKV.out 1; have hz2 : w2.cell? ⟨gbV, 2, none⟩ = some (.int .i64 0) := (blk_cell BKV.out 2).trans rfl; have hw2 := blk_frozen BKV.out 2; have hz3 : w2.cell? ⟨gbV, 3, none⟩ = some (.int .i64 0) := (blk_cell BKV.out 3).trans rfl; have hw3 := blk_frozen BKV.out 3; have hz4 : w2.cell? ⟨gbV, 4, none⟩ = some (.int .i64 0) := (blk_cell BKV.out 4).trans rfl; have hw4 := blk_frozen BKV.out 4; have hz5 : w2.cell? ⟨gbV, 5, none⟩ = some (.int .i64 0) := (blk_cell BKV.out 5).trans rfl; have hw5 := blk_frozen BKV.out 5) | ((with_reducible refine gate_store (t := 28) (p := 7) rfl ?_); refine store_event (t := 28) (p := 7) (v := ?vo_) (w1 := ((((((w2.setCell ⟨gbV, 0, none⟩ (.int .i64 y.f0.f0)).setCell ⟨gbV, 1, none⟩ (.int .i64 y.f0.f1)).setCell ⟨gbV, 2, none⟩ (.int .i64 y.f1)).setCell ⟨gbV, 3, none⟩ (.int .i64 y.f2)).setCell ⟨gbV, 4, none⟩ (.int .i64 y.f3)).setCell ⟨gbV, 5, none⟩ (.int .i64 y.f4))) ?hg ?ho ?hn ?hr ?_; (case ho => rfl); (case hg => rfl); (case hn => rfl); (case hr => first | (go_simp; done) | (go_simp; rfl)); intro w3 hw; have n0_ : Aside0 (Kd.R k28 28 w3 base ok (.slice (some ⟨gb, 0, none⟩) xs.length c) ys) := ⟨by rw [hw]; exact Kd.R_mono (Kd.R_far (p := ⟨gbV, 5, none⟩) (Kd.R_far (p := ⟨gbV, 4, none⟩) (Kd.R_far (p := ⟨gbV, 3, none⟩) (Kd.R_far (p := ⟨gbV, 2, none⟩) (Kd.R_far (p := ⟨gbV, 1, none⟩) (Kd.R_far (p := ⟨gbV, 0, none⟩) HO3.out (fun _ hk => hk.2) (.int .i64 y.f0.f0)) (fun _ hk => hk.2) (.int .i64 y.f0.f1)) (fun _ hk => hk.2) (.int .i64 y.f1)) (fun _ hk => hk.2) (.int .i64 y.f2)) (fun _ hk => hk.2) (.int .i64 y.f3)) (fun _ hk => hk.2) (.int .i64 y.f4)) (fun _ hk => hk.1)⟩; have n1_ : Aside0 (Kept W w3 (fun k => some k = (Value.slice (some ⟨gb, 0, none⟩) xs.length c).ownBlock)) := ⟨by rw [hw]; exact Kept.setCell (Kept.setCell (Kept.setCell (Kept.setCell (Kept.setCell (Kept.setCell (HK.out) (.inr GV.out) _) (.inr GV.out) _) (.inr GV.out) _) (.inr GV.out) _) (.inr GV.out) _) (.inr GV.out) _⟩; have n2_ : Aside0 (Below base w0 w3) := ⟨by rw [hw]; exact Below.setCell (p := ⟨gbV, 5, none⟩) (Below.setCell (p := ⟨gbV, 4, none⟩) (Below.setCell (p := ⟨gbV, 3, none⟩) (Below.setCell (p := ⟨gbV, 2, none⟩) (Below.setCell (p := ⟨gbV, 1, none⟩) (Below.setCell (p := ⟨gbV, 0, none⟩) (HBr.out) GB.out _) GB.out _) GB.out _) GB.out _) GB.out _) GB.out _⟩; have n3_ : Aside0 (w3.heap[gbV]? = some (.cells #[.int .i64 y.f0.f0, .int .i64 y.f0.f1, .int .i64 y.f1, .int .i64 y.f2, .int .i64 y.f3, .int .i64 y.f4] 28 (0, 0))) := ⟨by rw [hw]; exact (by refine blk_put (cs := #[.int .i64 y.f0.f0, .int .i64 y.f0.f1, .int .i64 y.f1, .int .i64 y.f2, .int .i64 y.f3, .int .i64 0]) ?_ 5 _ rfl; refine blk_put (cs := #[.int .i64 y.f0.f0, .int .i64 y.f0.f1, .int .i64 y.f1, .int .i64 y.f2, .int .i64 0, .int .i64 0]) ?_ 4 _ rfl; refine blk_put (cs := #[.int .i64 y.f0.f0, .int .i64 y.f0.f1, .int .i64 y.f1, .int .i64 0, .int .i64 0, .int .i64 0]) ?_ 3 _ rfl; refine blk_put (cs := #[.int .i64 y.f0.f0, .int .i64 y.f0.f1, .int .i64 0, .int .i64 0, .int .i64 0, .int .i64 0]) ?_ 2 _ rfl; refine blk_put (cs := #[.int .i64 y.f0.f0, .int .i64 0, .int .i64 0, .int .i64 0, .int .i64 0, .int .i64 0]) ?_ 1 _ rfl; refine blk_put (cs := #[.int .i64 0, .int .i64 0, .int .i64 0, .int .i64 0, .int .i64 0, .int .i64 0]) ?_ 0 _ rfl; exact BKV.out)⟩; clear HO3 HK HBr BKV hw hz0 hw0 hz1 hw1 hz2 hw2 hz3 hw3 hz4 hw4 hz5 hw5; have HO3 := n0_; have HK := n1_; have HBr := n2_; have BKV := n3_; clear n0_ n1_ n2_ n3_; have hv0 : w3.cell? ⟨gbV, 0, none⟩ = some (.int .i64 y.f0.f0) := (blk_cell BKV.out 0).trans rfl; have hv1 : w3.cell? ⟨gbV, 1, none⟩ = some (.int .i64 y.f0.f1) := (blk_cell BKV.out 1).trans rfl; have hv2 : w3.cell? ⟨gbV, 2, none⟩ = some (.int .i64 y.f1) := (blk_cell BKV.out 2).trans rfl; have hv3 : w3.cell? ⟨gbV, 3, none⟩ = some (.int .i64 y.f2) := (blk_cell BKV.out 3).trans rfl; have hv4 : w3.cell? ⟨gbV, 4, none⟩ = some (.int .i64 y.f3) := (blk_cell BKV.out 4).trans rfl; have hv5 : w3.cell? ⟨gbV, 5, none⟩ = some (.int .i64 y.f4) := (blk_cell BKV.out 5).trans rfl) | (go_at_fn g; refine (hstep w3 HK.out).mono ?_; rintro e w4 ⟨rfl, hb⟩; have n0_ := Aside0.mk (Kd.R_below HO3.out hb); have n1_ := Aside0.mk (HK.out.below hb); have n2_ := Aside0.mk (HBr.out.trans (hb.mono (Nat.le_trans hbase HK.out.1))); have n3_ := Aside0.mk (blk_below BKV.out hb); clear HO3 HK HBr BKV; have HO3 := n0_; have HK := n1_; have HBr := n2_; have BKV := n3_; clear n0_ n1_ n2_ n3_ hb; have hv0 : w4.cell? ⟨gbV, 0, none⟩ = some (.int .i64 y.f0.f0) := (blk_cell BKV.out 0).trans rfl; have hv1 : w4.cell? ⟨gbV, 1, none⟩ = some (.int .i64 y.f0.f1) := (blk_cell BKV.out 1).trans rfl; have hv2 : w4.cell? ⟨gbV, 2, none⟩ = some (.int .i64 y.f1) := (blk_cell BKV.out 2).trans rfl; have hv3 : w4.cell? ⟨gbV, 3, none⟩ = some (.int .i64 y.f2) := (blk_cell BKV.out 3).trans rfl; have hv4 : w4.cell? ⟨gbV, 4, none⟩ = some (.int .i64 y.f3) := (blk_cell BKV.out 4).trans rfl; have hv5 : w4.cell? ⟨gbV, 5, none⟩ = some (.int .i64 y.f4) := (blk_cell BKV.out 5).trans rfl; obtain ⟨ce_, hcl_, hM_, hcc0_, hfr_⟩ := Kd.R_elem HO3.out z28 (ii : Int) (by omega) (by omega); obtain rfl := k28_openM hM_; have hseg_ := (Kd.R_seg HO3.out (ii : Int) (by omega) (by omega) (seg := [.int .i64 y.f0.f0, .int .i64 y.f0.f1, .int .i64 y.f1, .int .i64 y.f2, .int .i64 y.f3, .int .i64 y.f4]) (j := 0) hcl_ hcc0_ (show 0 + 6 ≤ 6 by decide) (x' := y) (k28_mkM _ _ _ y) (okp := fun k => ok k ∧ k ≠ gb) (fun _ hk => hk)).1; have hsz_ : k28.sz = 6 := rfl; simp only [World.setCells, Int.toNat_natCast, Nat.add_zero, hsz_, Nat.add_assoc, Nat.reduceAdd] at hseg_; have HSEG := Aside0.mk hseg_; clear hseg_ hsz_; have hr0 : w4.cell? ⟨gb, ii * 6, none⟩ = some _ := hcc0_ 0 _ rfl; have hs0 : w4.frozen? ⟨gb, ii * 6, none⟩ = false := hfr_ 0; have hr1 : w4.cell? ⟨gb, ii * 6 + 1, none⟩ = some _ := hcc0_ 1 _ rfl; have hs1 : w4.frozen? ⟨gb, ii * 6 + 1, none⟩ = false := hfr_ 1; have hr2 : w4.cell? ⟨gb, ii * 6 + 2, none⟩ = some _ := hcc0_ 2 _ rfl; have hs2 : w4.frozen? ⟨gb, ii * 6 + 2, none⟩ = false := hfr_ 2; have hr3 : w4.cell? ⟨gb, ii * 6 + 3, none⟩ = some _ := hcc0_ 3 _ rfl; have hs3 : w4.frozen? ⟨gb, ii * 6 + 3, none⟩ = false := hfr_ 3; have hr4 : w4.cell? ⟨gb, ii * 6 + 4, none⟩ = some _ := hcc0_ 4 _ rfl; have hs4 : w4.frozen? ⟨gb, ii * 6 + 4, none⟩ = false := hfr_ 4; have hr5 : w4.cell? ⟨gb, ii * 6 + 5, none⟩ = some _ := hcc0_ 5 _ rfl; have hs5 : w4.frozen? ⟨gb, ii * 6 + 5, none⟩ = false := hfr_ 5; clear hcl_ hcc0_ hfr_ hM_))
          go_roundg (xs.length - (jj + 1))
          case measure => omega
          case rel =>
            have hS_ : some gb = (Value.slice (some ⟨gb, 0, none⟩) xs.length c).ownBlock := rfl
            refine ⟨ii + 1, jj + 1, by omega, by omega, by omega, by first | rfl | (congr 1; go_num) | go_num, by first | rfl | (congr 1; go_num) | go_num, ⟨ys.set ii y, HSEG.out, ?_, ?_⟩, ⟨Kept.setCell (p := ⟨gb, ii * 6 + 5, none⟩) (Kept.setCell (p := ⟨gb, ii * 6 + 4, none⟩) (Kept.setCell (p := ⟨gb, ii * 6 + 3, none⟩) (Kept.setCell (p := ⟨gb, ii * 6 + 2, none⟩) (Kept.setCell (p := ⟨gb, ii * 6 + 1, none⟩) (Kept.setCell (p := ⟨gb, ii * 6, none⟩) (HK.out) (Or.inl hS_) _) (Or.inl hS_) _) (Or.inl hS_) _) (Or.inl hS_) _) (Or.inl hS_) _) (Or.inl hS_) _⟩, ⟨Below.setCell (p := ⟨gb, ii * 6 + 5, none⟩) (Below.setCell (p := ⟨gb, ii * 6 + 4, none⟩) (Below.setCell (p := ⟨gb, ii * 6 + 3, none⟩) (Below.setCell (p := ⟨gb, ii * 6 + 2, none⟩) (Below.setCell (p := ⟨gb, ii * 6 + 1, none⟩) (Below.setCell (p := ⟨gb, ii * 6, none⟩) (HBr.out) hgb_ _) hgb_ _) hgb_ _) hgb_ _) hgb_ _) hgb_ _⟩⟩
            · rw [Alarm_take_set ys ii y (by have := HYL.out; omega), HT.out, List.take_succ_eq_append_getElem hlt, List.filter_append, Y.out]; simp [Q.out]
            · rw [Alarm_drop_set ys ii (jj + 1) y (by omega)]
              have h3 := HD.out
              rw [List.drop_eq_getElem_cons (show jj < ys.length by have := HYL.out; omega), List.drop_eq_getElem_cons hlt] at h3
              injection h3
      · have hltz : ¬ (jj : Int) < (xs.length : Int) := by omega
        have hje : jj = xs.length := by omega
        have HYL := Aside0.mk hyl
        have hin : ii < xs.length := by omega
        obtain ⟨t1, t2, t3, t4⟩ := R_tail (Kd.R_take (m := ii) hO (by omega)) (Builtin.zeroCells (Value.agg #[.int .i64 0, .int .i64 0, .int .i64 0, .int .i64 0, .int .i64 0, .int .i64 0]).cells (xs.length - ii)).toList (by rw [Alarm_zeros_len]; show ii * 6 + _ ≤ c * 6; omega)
        have hsz : k28.sz = 6 := rfl
        rw [hsz] at t1 t3 t4
        have hst := run_storeCells_cells (P := Try.prog) gb (ii * 6) (Builtin.zeroCells (Value.agg #[.int .i64 0, .int .i64 0, .int .i64 0, .int .i64 0, .int .i64 0, .int .i64 0]).cells (xs.length - ii)).toList 0 wr (fun j hj => t1 j hj) (fun j _ => t2 _) (Alarm_zeros_one _)
        have hcl := Alarm_clear wr _ gb (ii * 6) (xs.length - ii) (c - ii) (by omega) hst
        have hb2 := HBr.out.grown t4 (Nat.le_trans hbase HK.out.1) (fun k hk => by injection hk with hk; subst hk; exact hgb_)
        have T3 := Aside0.mk t3
        have B2 := Aside0.mk hb2
        have TF : Aside0 (ys.take ii = xs.filter (fun x => !p x)) := ⟨by rw [HT.out, hje, List.take_length]⟩
        simp only [Nat.add_zero] at hcl
        generalize wr.setCells gb (ii * 6) (Builtin.zeroCells (Value.agg #[.int .i64 0, .int .i64 0, .int .i64 0, .int .i64 0, .int .i64 0, .int .i64 0]).cells (xs.length - ii)).toList = w5 at hcl T3 B2
        have i1 : ¬ c = ii := by omega
        have i2 : ii ≤ xs.length := by omega
        have i3 : ii ≤ c := by omega
        clear hst t1 t2 t3 t4 hb2 hyl hO hT hD hje
        go_wp2
        go_ret
        exact ⟨_, rfl, by rw [← TF.out]; exact T3.out, B2.out⟩


/-! ### board_Of: function 26 -/
def board_Of.f (a0_0 : Int) (a0_1 : Int) (l0_2 : List S28) (l1 : List Int) : Option (List S28) := if l0_2.length < 2199023255552 then some (l0_2.filter (fun x => l1.contains x.f0.f0)) else none
theorem board_Of.wr {i : Int} (h : 0 ≤ i) (h' : i < 9223372036854775807) : wrap64 (i + 1) = i + 1 := by unfold wrap64; omega
theorem board_Of.rd_ (l : List Int) (i : Nat) (h : i < l.length) : rd l (i : Int) = l[i] := by
  simp [rd, List.getD_eq_getElem?_getD, List.getElem?_eq_getElem h]
theorem board_Of.index (l : List Int) (v : Int) (hb : l.length ≤ 9223372036854775807) : ∀ (d i : Nat), i + d = l.length → ∃ r : Int, (∃ k, slices_Index_int_int.l0 k l v (l.length : Int) (i : Int) = some r) ∧ (decide (r ≥ 0) = (l.drop i).contains v) := by
  intro d
  induction d with
  | zero =>
    intro i hi
    refine ⟨-1, ⟨1, ?_⟩, by rw [List.drop_eq_nil_of_le (by omega)]; rfl⟩
    simp only [slices_Index_int_int.l0]
    rw [if_neg (by omega)]
  | succ d ih =>
    intro i hi
    have hi2 : i < l.length := by omega
    by_cases he : v = l[i]
    · refine ⟨(i : Int), ⟨1, ?_⟩, ?_⟩
      · simp only [slices_Index_int_int.l0]
        rw [if_pos (by omega), if_pos (by omega), if_pos (by omega), board_Of.rd_ l i hi2, if_pos he]
      · have h3 : (l[i] :: l.drop (i + 1)).contains l[i] = true := by rw [List.contains_cons]; simp only [beq_self_eq_true, Bool.true_or]
        rw [List.drop_eq_getElem_cons hi2, he, decide_eq_true (by omega)]
        exact h3.symm
    · obtain ⟨r, ⟨k, hk⟩, h2⟩ := ih (i + 1) (by omega)
      refine ⟨r, ⟨k + 1, ?_⟩, ?_⟩
      · simp only [slices_Index_int_int.l0]
        rw [if_pos (by omega), if_pos (by omega), if_pos (by omega), board_Of.rd_ l i hi2, if_neg he, board_Of.wr (by omega) (by omega)]
        exact hk
      · rw [h2, List.drop_eq_getElem_cons hi2, List.contains_cons]
        rw [show (v == l[i]) = false from beq_eq_false_iff_ne.2 he]; rfl
theorem board_Of.has (l : List Int) (v : Int) (hb : l.length ≤ 9223372036854775807) : ∃ k, slices_Contains_int_int.f k l v = some (l.contains v) := by
  obtain ⟨r, ⟨k, hk⟩, h2⟩ := board_Of.index l v hb l.length 0 (by omega)
  refine ⟨k, ?_⟩
  unfold slices_Contains_int_int.f slices_Index_int_int.f
  rw [show ((0 : Nat) : Int) = 0 from rfl] at hk
  rw [hk, Option.bind_some, h2, List.drop_zero]
theorem board_Of.one (A1 : Option Addr) (c1 : Nat) (l1 : List Int) (B : Nat) (W : World) (x : S28) (hbk : W.heap[B]? = some (.cells #[.slice A1 l1.length c1] 29 (0, 0))) (hc1 : l1.length ≤ c1) (hr1 : Kd.C (Kd.int .i64) W A1 l1.length l1) :
    Calls Try.prog 62 (#[.agg #[.int .i64 x.f0.f0, .int .i64 x.f0.f1, .int .i64 x.f1, .int .i64 x.f2, .int .i64 x.f3, .int .i64 x.f4]] ++ #[.pointer (some ⟨B, 0, none⟩)]) W fun e w' => e = .returned (.bool (!l1.contains x.f0.f0)) ∧ Below W.heap.size W w' := by
  have hc : W.cell? ⟨B, 0, none⟩ = some (.slice A1 l1.length c1) := (blk_cell hbk 0).trans rfl
  have hBW : B < W.heap.size := blk_lt hbk
  have hne : B ≠ W.heap.size := by omega
  obtain ⟨k, hk⟩ := board_Of.has l1 x.f0.f0 hr1.2.1
  obtain ⟨⟨x0, x1⟩, x2, x3, x4, x5⟩ := x
  show Calls Try.prog 62 #[.agg #[.int .i64 x0, .int .i64 x1, .int .i64 x2, .int .i64 x3, .int .i64 x4, .int .i64 x5], .pointer (some ⟨B, 0, none⟩)] W _
  have hcon : ∀ o, Calls Try.prog 63 #[.slice A1 l1.length c1, .int .i64 x0] (W.alloc o) fun e w' => e = .returned (.bool (l1.contains x0)) ∧ Drawn0 (W.alloc o) w' := fun o => slices_Contains_int_int.calls k A1 c1 l1 x0 _ _ (Kd.C_alloc hr1 _) hc1 hk
  clear hk hr1 hbk
  have HCN := Aside0.mk hcon
  clear hcon
  show Calls _ _ _ _ fun e w' => e = .returned (.bool (!l1.contains x0)) ∧ Below W.heap.size W w'
  generalize l1.contains x0 = q at HCN
  go_enter Try.func62, Try.ntmps62
  go_wp2_with (go_at_call 63; refine (HCN.out _).mono ?_; rintro e w' ⟨rfl, ⟨nd, rfl⟩⟩)
  all_goals (go_ret; exact ⟨by first | rfl | (simp; done) | (simp_all; done), by repeat (with_reducible first | exact Below.refl _ _ | apply below_alloc | apply pw_below_drewN | apply below_drew1)⟩)
set_option maxHeartbeats 8000000 in
set_option maxRecDepth 100000 in
theorem board_Of.calls (a0_0 : Int) (a0_1 : Int) (A0_2 : Option Addr) (c0_2 : Nat) (l0_2 : List S28) (A1 : Option Addr) (c1 : Nat) (l1 : List Int) (r : List S28) (w : World) (hr0_2 : Kd.C k28 w A0_2 l0_2.length l0_2) (hc0_2 : l0_2.length ≤ c0_2) (hr1 : Kd.C (Kd.int .i64) w A1 l1.length l1) (hc1 : l1.length ≤ c1) (h : board_Of.f a0_0 a0_1 l0_2 l1 = some r) :
    Calls Try.prog 26 #[.agg #[.int .i64 a0_0, .int .i64 a0_1, .slice A0_2 l0_2.length c0_2], .slice A1 l1.length c1] w fun e w' => ∃ v0_ : Value, e = .returned (v0_) ∧ Kd.R k28 28 w' w.heap.size (fun _ => True) v0_ r ∧ Below w.heap.size w w' := by
  have hu24 := Try.underlying24
  have eg : ∀ args w, (callFunc 62 args).run Try.prog w = .ok (.enter 62 args) w := enters_of Try.func62 (by kernel_rfl) rfl
  unfold board_Of.f at h
  by_cases c : l0_2.length < 2199023255552
  · rw [if_pos c] at h
    obtain rfl := Option.some.inj h
    have CL := Aside0.mk (show api_Alarm_61.f l0_2 = some l0_2 from by unfold api_Alarm_61.f; rw [if_pos c])
    have HR := Aside0.mk hr0_2
    have HC := Aside0.mk hc0_2
    have HR1 := Aside0.mk hr1
    have HC1 := Aside0.mk hc1
    have HB := Aside0.mk (Below.refl w.heap.size w)
    have FE : Aside0 (l0_2.filter (fun x => !(!l1.contains x.f0.f0)) = l0_2.filter (fun x => l1.contains x.f0.f0)) := ⟨by congr 1; funext x; rw [Bool.not_not]⟩
    clear hr0_2 hc0_2 hr1 hc1 h c
    go_enter Try.func26, Try.ntmps26
    go_wp2_with (first | ((with_reducible refine gate_dst (N := 2) rfl ?_); refine box_event ?hg (N := 2) ?hd (cs := #[.int .i64 a0_0, .int .i64 a0_1, .slice A0_2 l0_2.length c0_2]) (t := 24) ?hr ?_; (case hd => rfl); (case hg => rfl); (case hr => first | (go_simp; done) | (go_simp; rfl)); intro gbB hg w3 hbox hb; have n0_ := Aside0.mk (below_step HB.out hb); have n1_ := Aside0.mk hbox; have n2_ := Aside0.mk ((by rw [hg]; exact (below_size HB.out)) : w.heap.size ≤ gbB); clear HB; have HB := n0_; have BKB := n1_; have GEB := n2_; clear n0_ n1_ n2_; clear hb hbox hg) | ((with_reducible refine gate_dst (N := 3) rfl ?_); refine box_event ?hg (N := 3) ?hd (cs := #[.slice A1 l1.length c1]) (t := 29) ?hr ?_; (case hd => rfl); (case hg => rfl); (case hr => first | (go_simp; done) | (go_simp; rfl)); intro gbD hg w4 hbox hb; have n0_ := Aside0.mk (below_step HB.out hb); have n1_ := Aside0.mk hbox; have n2_ := Aside0.mk ((by rw [hg]; exact (below_size HB.out)) : w.heap.size ≤ gbD); have m0_ := Aside0.mk (blk_below BKB.out hb); clear HB; clear BKB; have HB := n0_; have BKD := n1_; have GED := n2_; have BKB := m0_; clear n0_ n1_ n2_ m0_; clear hb hbox hg; have hczB_0 : w4.cell? ⟨gbB, 0, none⟩ = some (.int .i64 a0_0) := (blk_cell BKB.out 0).trans rfl; have hczB_1 : w4.cell? ⟨gbB, 1, none⟩ = some (.int .i64 a0_1) := (blk_cell BKB.out 1).trans rfl; have hczB_2 : w4.cell? ⟨gbB, 2, none⟩ = some (.slice A0_2 l0_2.length c0_2) := (blk_cell BKB.out 2).trans rfl) | (go_at_call 61; refine (api_Alarm_61.calls A0_2 c0_2 l0_2 l0_2 w4 (Kd.C_below HR.out HB.out) HC.out CL.out).mono ?_; rintro e w5 ⟨v5, rfl, ho, hb⟩; have n0_ := Aside0.mk (Kd.R_lower ho (below_size HB.out)); have n3_ := Aside0.mk (Kd.R_base ho); have n1_ := Aside0.mk (below_step HB.out hb); have m0_ := Aside0.mk (blk_below BKD.out hb); have m1_ := Aside0.mk (blk_lt BKD.out); clear HB BKD ho hb; have HO := n0_; have HBS := n3_; have HB := n1_; have BKD := m0_; have LTD := m1_; clear n0_ n1_ n3_ m0_ m1_; have HCON := Aside0.mk (delfunc_Alarm.calls v5 l0_2 (fun x => !l1.contains x.f0.f0) 62 #[.pointer (some ⟨gbD, 0, none⟩)] eg HO.out HB.out (below_size HB.out) (fun W1 x hk => board_Of.one A1 c1 l1 gbD W1 x ((hk.2 gbD (blk_lt BKD.out) (fun e_ => Nat.lt_irrefl _ (Nat.lt_of_lt_of_le LTD.out (HBS.out gbD e_.symm)))).trans BKD.out) HC1.out (Kd.C_kept_came (Kd.heap_int .i64) HR1.out HB.out (fun k hk_ => Kd.R_base HO.out k hk_.symm) W1 hk)))) | (go_at_call 60; refine HCON.out.mono ?_; rintro e w6 ⟨v6, rfl, ho, hb⟩; have HO6 := Aside0.mk ho; have HB6 := Aside0.mk hb; clear ho hb HCON))
    go_ret
    exact ⟨_, rfl, by rw [← FE.out]; exact HO6.out, HB6.out⟩
  · rw [if_neg c] at h
    exact absurd h (by simp)

/-! ### watchmanref01_Own: function 29 -/
def watchmanref01_Own.f (l0 : List Int) : Option (List Int) := if ([] : List Int).length + l0.length < 17592186044416 then (some (([] : List Int) ++ l0)) else (none)
set_option maxHeartbeats 8000000 in
set_option maxRecDepth 100000 in
theorem watchmanref01_Own.calls (A0 : Option Addr) (c0 : Nat) (l0 : List Int) (r : List Int) (w : World) (hr0 : Kd.C (Kd.int .i64) w A0 l0.length l0) (hc0 : l0.length ≤ c0) (h : watchmanref01_Own.f l0 = some r) :
  Calls Try.prog 29 #[.slice A0 l0.length c0] w fun e w' => ∃ v0_ : Value, e = .returned (v0_) ∧ Kd.R (Kd.int .i64) 3 w' w.heap.size (fun _ => True) v0_ r ∧ Below w.heap.size w w' := by
 have HR0 := Aside0.mk hr0
 have HC0 := Aside0.mk hc0
 clear hr0 hc0
 have HB := Aside0.mk (Below.refl w.heap.size w)
 have H : (if ([] : List Int).length + l0.length < 17592186044416 then (some (([] : List Int) ++ l0)) else (none)) = some r := h
 clear h
 by_cases c2 : ([] : List Int).length + l0.length < 17592186044416
 ·rw [if_pos c2] at H
  have LMc2 := Aside0.mk c2
  clear c2
  obtain ⟨y340, hy340⟩ : ∃ y_ : List Int, y_ = (([] : List Int) ++ l0) := ⟨_, rfl⟩
  replace H : (some y340) = some r := by first | (rw [hy340]; with_reducible exact H) | (have H2_ := (Option.bind_some _ _).symm.trans H; rw [hy340]; with_reducible exact H2_) | (have H2_ := (Option.bind_some _ _).symm.trans H; with_reducible exact H2_) | with_reducible exact H | (rw [hy340]; exact H) | exact H
  have Ny340 := Aside0.mk hy340
  clear hy340
  obtain rfl := Option.some.inj H
  go_enter Try.func29, Try.ntmps29
  go_wp2_with (first | ((with_reducible refine gate_builtin (b := .append) (xs := #[.tmp 4, .tmp 5]) rfl ?_); at_builtin; refine Kd.R_append_rows (Kd.int .i64) (w0 := w) w.heap.size rfl (.tmp 4) (.tmp 5) 29 3 (.int .i64 0) 8 rfl Try.underlying29 info3 rfl (by decide) (by omega) (.slice none 0 0) ([] : List Int) l0 _ _ _ (fun _ => True) (fun _ => False) rfl rfl ?aO ?aR (fun _ _ h => h) (fun _ h => h.elim) ?aF ?aB ?aS ?aL ?_; (case aR => repeat (first | exact HR0.out | (with_reducible refine Kd.C_alloc ?_ _) | (with_reducible refine Kd.C_drewN ?_ _) | (with_reducible refine Kd.C_drew ?_))); (case aB => exact HB.out); (case aF => exact (fun _ _ => trivial)); (case aO => exact ((Kd.R_nil _ _ _ _ (fun _ => True)))); (case aS => exact (below_size HB.out)); (case aL => have := LMc2.out; omega); intro v341 w3 ho hb hg hat; rw [← Ny340.out] at ho; replace HB := Aside0.mk (hb); have HO342 := Aside0.mk (ho); clear ho hb hg hat))
  go_ret
  exact ⟨_, by first | rfl | (simp [errW_none, errW_some] <;> rfl) | (simp [*, errW_none, errW_some] <;> rfl), by (with_reducible repeat (first | apply Kd.R_alloc | apply Kd.R_drewN | apply Kd.R_drew)); exact HO342.out, by repeat (with_reducible first | exact HB.out | apply pw_below_drewN | apply below_drew1)⟩
 ·rw [if_neg c2] at H
  exact absurd H (by simp)

end Go.Proofs.Ytcfpbmdndapeaaa.F
