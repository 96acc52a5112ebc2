/- The pure statement of DueTells: what the program's functions of chapter 9 answer is what the document's answer; all of them answer. -/
import Derived.Test.YtcfpbmdndapeaaaDu
import Derived.Test.YtcfpbmdndapeaaaHr
import Derived.Test.YtcfpbmdndapeaaaF18
import Derived.Test.YtcfpbmdndapeaaaF19
import Derived.Test.YtcfpbmdndapeaaaF21
import Derived.Test.YtcfpbmdndapeaaaF22
import Derived.Test.YtcfpbmdndapeaaaF25
import Derived.Test.YtcfpbmdndapeaaaF4
import Derived.Test.YtcfpbmdndapeaaaQDueTells
set_option linter.unusedVariables false
set_option linter.unusedSimpArgs false
namespace Go.Proofs.Ytcfpbmdndapeaaa.F
open Go.RowKit Go.Proofs.YtcfpbmdndapeaaaV.PrintWords Go.Proofs.YtcfpbmdndapeaaaV.PrintLast
namespace Du
open Ds (Tn ltT leT Srt)
/-! ### turns in order -/
instance (x y : Tn) : Decidable (ltT x y) := by unfold ltT; infer_instance
theorem ahead_is (x y : Tn) : watchmanref09_ahead.f x.f0 x.f1.f0 x.f1.f1 x.f2 y.f0 y.f1.f0 y.f1.f1 y.f2 = some (decide (ltT x y)) := by
  unfold watchmanref09_ahead.f
  by_cases h1 : x.f0 = y.f0
  · rw [if_pos h1]
    by_cases h2 : x.f1.f0 = y.f1.f0 ∧ x.f1.f1 = y.f1.f1
    · rw [if_neg (by simp [h2.1, h2.2])]; congr 1; rw [decide_eq_decide]; unfold ltT; omega
    · have h3 : (!(x.f1.f0 == y.f1.f0) || (!(x.f1.f1 == y.f1.f1))) = true := by
        simp only [Bool.or_eq_true, Bool.not_eq_true', beq_eq_false_iff_ne]; omega
      rw [if_pos h3, refless_is x.f1 y.f1]
      simp only [Option.bind_some]
      congr 1; rw [decide_eq_decide]; unfold ltT lt; omega
  · rw [if_neg h1]; congr 1; rw [decide_eq_decide]; unfold ltT; omega
theorem ins_srt {out : List Tn} (hs : Srt out) (x : Tn) (q : Nat) (h1 : ∀ j (h : j < out.length), j < q → ¬ ltT x out[j]) (h2 : ∀ h : q < out.length, ltT x out[q]) : Srt (out.take q ++ [x] ++ out.drop q) := by
  have h3 : ∀ y ∈ out.take q, leT y x := fun y hy => by
    obtain ⟨j, hj, rfl⟩ := List.mem_iff_getElem.1 hy
    rw [List.length_take] at hj
    rw [List.getElem_take]
    exact h1 j (by omega) (by omega)
  have h4 : ∀ y ∈ out.drop q, leT x y := fun y hy => by
    obtain ⟨j, hj, rfl⟩ := List.mem_iff_getElem.1 hy
    rw [List.length_drop] at hj
    rw [List.getElem_drop]
    exact Ds.le_trans (Ds.le_of_lt (h2 (by omega))) (Ds.at_lt hs (by omega) (by omega) (by omega))
  rw [List.append_assoc]
  refine List.pairwise_append.2 ⟨hs.sublist (List.take_sublist _ _), List.pairwise_cons.2 ⟨h4, hs.sublist (List.drop_sublist _ _)⟩, fun a ha b hb => ?_⟩
  rcases List.mem_cons.1 hb with rfl | hb
  · exact h3 a ha
  · exact Ds.le_trans (h3 a ha) (h4 b hb)
theorem ins_perm (out : List Tn) (x : Tn) (q : Nat) : (out.take q ++ [x] ++ out.drop q).Perm (x :: out) := by
  have h : (out.take q ++ [x] ++ out.drop q).Perm (x :: (out.take q ++ out.drop q)) := by
    rw [List.append_assoc]; exact List.perm_middle
  rwa [List.take_append_drop] at h
theorem refo_l1 (l out o' : List Tn) (i : Nat) (hi : i < l.length) (hl : l.length + out.length < 1000000) (hs : Srt out) (ho : Srt o') (hp : o'.Perm (l[i] :: out)) (res : List Tn)
    (hn : Ev (fun k => watchmanref09_Order.l0 k l o' (wrap64 ((i : Int) + 1))) res) : ∀ (d q : Nat), q + d = out.length → (∀ j (h : j < out.length), j < q → ¬ ltT l[i] out[j]) → Ev (fun k => watchmanref09_Order.l1 k l out (i : Int) (q : Int)) res := by
  have put : ∀ q, q ≤ out.length → (∀ j (h : j < out.length), j < q → ¬ ltT l[i] out[j]) → (∀ h : q < out.length, ltT l[i] out[q]) → Ev (fun k => watchmanref09_Order.l0 k l (out.take q ++ [(⟨(rd_T65 l (i : Int)).f0, (⟨(rd_T65 l (i : Int)).f1.f0, (rd_T65 l (i : Int)).f1.f1⟩ : Sp), (rd_T65 l (i : Int)).f2⟩ : Tn)] ++ out.drop q) (wrap64 ((i : Int) + 1))) res := by
    intro q _ h1 h2
    show Ev (fun k => watchmanref09_Order.l0 k l (out.take q ++ [rd_T65 l (i : Int)] ++ out.drop q) (wrap64 ((i : Int) + 1))) res
    rw [Ds.rdT l i hi, Ds.srt_unique (ins_srt hs l[i] q h1 h2) ho ((ins_perm out l[i] q).trans hp.symm)]
    exact hn
  intro d
  induction d with
  | zero =>
    intro q hq h1
    refine Ev.step (fun k => by rw [watchmanref09_Order.l1]) ?_
    refine ev_neg (by omega) (ev_pos (by omega) (ev_pos (by omega) ?_))
    simp only [Option.bind_some, Int.toNat_natCast, List.nil_append]
    refine ev_pos (by simp only [List.length_nil, List.length_take]; omega) (ev_pos (by omega) (ev_pos (by omega) (ev_pos (by simp only [List.length_take]; omega) (ev_pos (by simp only [List.length_append, List.length_cons, List.length_nil, List.length_take, List.length_drop]; omega) ?_))))
    exact put q (by omega) h1 (fun h => absurd h (by omega))
  | succ d ih =>
    intro q hq h1
    have hq2 : q < out.length := by omega
    have e : ((q + 1 : Nat) : Int) = wrap64 ((q : Int) + 1) := by rw [wr1 (by omega) (by omega)]; rfl
    refine Ev.step (fun k => by rw [watchmanref09_Order.l1]) ?_
    refine ev_pos (by omega) (ev_pos (by omega) (ev_pos (by omega) (ev_pos (by omega) ?_)))
    have ha := ahead_is l[i] out[q]
    rw [← Ds.rdT l i hi, ← Ds.rdT out q hq2] at ha
    rw [ha]
    simp only [Option.bind_some]
    rw [Ds.rdT l i hi, Ds.rdT out q hq2]
    by_cases c : ltT l[i] out[q]
    · refine ev_pos (decide_eq_true c) (ev_pos (by omega) ?_)
      have h := put q (by omega) h1 (fun _ => c)
      rw [Ds.rdT l i hi] at h
      simp only [Option.bind_some, Int.toNat_natCast, List.nil_append]
      refine ev_pos (by simp only [List.length_nil, List.length_take]; omega) (ev_pos (by simp only [List.length_take]; omega) (ev_pos (by simp only [List.length_append, List.length_cons, List.length_nil, List.length_take, List.length_drop]; omega) h))
    · refine ev_neg (by rw [decide_eq_false c]; decide) ?_
      have h2 := ih (q + 1) (by omega) (fun j hj hjq => by
        by_cases hj2 : j = q
        · subst hj2; exact c
        · exact h1 j hj (by omega))
      rw [e] at h2
      exact h2
theorem refo_l0 (l : List Tn) (hl : l.length < 200000) (res : List Tn) (hs : Srt res) (hp : res.Perm l) : ∀ (d i : Nat) (out : List Tn), i + d = l.length → Srt out → out.Perm (l.take i) → Ev (fun k => watchmanref09_Order.l0 k l out (i : Int)) res := by
  intro d
  induction d with
  | zero =>
    intro i out hi ho hpo
    refine Ev.step (fun k => by rw [watchmanref09_Order.l0]) ?_
    rw [List.take_of_length_le (by omega)] at hpo
    rw [Ds.srt_unique hs ho (hp.trans hpo.symm)]
    exact ev_neg (by omega) (Ev.now _)
  | succ d ih =>
    intro i out hi ho hpo
    have hi2 : i < l.length := by omega
    have hlen : out.length = i := by rw [hpo.length_eq, List.length_take]; omega
    obtain ⟨o', ho', hp', _⟩ := Ds.order_ev (l[i] :: out) (by rw [List.length_cons]; omega)
    have h1 := ih (i + 1) o' (by omega) ho' (by
      rw [List.take_succ_eq_append_getElem hi2]
      refine hp'.trans ?_
      refine (List.Perm.cons _ hpo).trans ?_
      exact (List.perm_append_singleton _ _).symm)
    have e : ((i + 1 : Nat) : Int) = wrap64 ((i : Int) + 1) := by rw [wr1 (by omega) (by omega)]; rfl
    rw [e] at h1
    refine Ev.step (fun k => by rw [watchmanref09_Order.l0]) ?_
    refine ev_pos (by omega) ?_
    exact refo_l1 l out o' i hi2 (by omega) ho ho' hp' res h1 out.length 0 (by omega) (fun j _ h => absurd h (by omega))
theorem reforder_ev (l : List Tn) (hl : l.length < 200000) (res : List Tn) (hs : Srt res) (hp : res.Perm l) : Ev (fun k => watchmanref09_Order.f k l) res := by
  unfold watchmanref09_Order.f
  exact refo_l0 l hl res hs hp l.length 0 [] (by omega) List.Pairwise.nil (List.Perm.refl _)
theorem order_both (l : List Tn) (hl : l.length < 200000) : ∃ r, Ev (fun k => due_Order.f k l) r ∧ Ev (fun k => watchmanref09_Order.f k l) r ∧ r.Perm l := by
  obtain ⟨r, r1, r2, r3⟩ := Ds.order_ev l (by omega)
  exact ⟨r, r3, reforder_ev l hl r r1 r2, r2⟩
/-! ### turns to come -/
theorem reft_l0 (m n t : Int) (l : List Al) (hl : l.length ≤ 60) (hA : ∀ x ∈ l, isA x) (res : List Tn × Int) (hfin : Ev (fun k => (watchmanref09_Order.f k (l.flatMap (stp t))).bind fun o => some (o, (0 : Int))) res) : ∀ (d i : Nat), i + d = l.length →
    Ev (fun k => watchmanref09_Turns.l0 k t ((l.take i).flatMap (stp t)) (i : Int) m n l) res := by
  intro d
  induction d with
  | zero =>
    intro i hi
    refine Ev.step (fun k => by rw [watchmanref09_Turns.l0]) ?_
    rw [List.take_of_length_le (by omega)]
    exact ev_neg (by omega) hfin
  | succ d ih =>
    intro i hi
    have hi2 : i < l.length := by omega
    have h1 := ih (i + 1) (by omega)
    have e : ((i + 1 : Nat) : Int) = wrap64 ((i : Int) + 1) := by rw [wr1 (by omega) (by omega)]; rfl
    rw [e, List.take_succ_eq_append_getElem hi2, List.flatMap_append, List.flatMap_cons, List.flatMap_nil, List.append_nil] at h1
    have hx := hA l[i] (List.getElem_mem hi2)
    have hb := wt_bound l[i].f2
    have hu : 0 ≤ l[i].f4 ∧ l[i].f4 ≤ 1000002000 := by unfold isA IsA at hx; omega
    have hlen : ((l.take i).flatMap (stp t)).length ≤ 120 := by
      have := flat_len t (l.take i)
      rw [List.length_take] at this
      omega
    generalize (l.take i).flatMap (stp t) = out at h1 hlen ⊢
    refine Ev.step (fun k => by rw [watchmanref09_Turns.l0]) ?_
    refine ev_pos (by omega) (ev_pos (by omega) ?_)
    rw [rdA l i hi2]
    generalize l[i] = x at h1 hx hb hu ⊢
    clear hfin ih
    by_cases c4 : x.f1 = 4
    · refine ev_pos c4 ?_
      refine Ev.step (fun k => by rw [watchmanref09_Turns.j2]) ?_
      by_cases c : x.f4 ≤ t
      · refine ev_pos (decide_eq_true c) (ev_pos (by omega) ?_)
        rw [ref06_Wait_eq]
        simp only [Option.bind_some]
        have ew : wrap64 (x.f4 + wt x.f2) = x.f4 + wt x.f2 := wrn (by omega) (by omega)
        rw [ew]
        refine Ev.step (fun k => by rw [watchmanref09_Turns.j3]) ?_
        refine ev_pos rfl ?_
        by_cases c2 : x.f4 + wt x.f2 ≤ t
        · refine ev_pos c2 (ev_pos (by rw [List.length_append, List.length_cons, List.length_nil]; omega) ?_)
          have es : stp t x = [⟨x.f4, x.f0, 1⟩, ⟨x.f4 + wt x.f2, x.f0, 2⟩] := by unfold stp; rw [if_pos c4, if_neg (by omega), if_neg (by omega)]
          rw [es] at h1
          rw [List.append_assoc]
          exact h1
        · refine ev_neg c2 ?_
          have es : stp t x = [⟨x.f4, x.f0, 1⟩] := by unfold stp; rw [if_pos c4, if_neg (by omega), if_pos (by omega)]
          rw [es] at h1
          exact h1
      · refine ev_neg (by rw [decide_eq_false c]; decide) ?_
        refine Ev.step (fun k => by rw [watchmanref09_Turns.j3]) ?_
        refine ev_neg (by omega) ?_
        have es : stp t x = [] := by unfold stp; rw [if_pos c4, if_pos (by omega)]
        rw [es, List.append_nil] at h1
        exact h1
    · refine ev_neg c4 ?_
      refine Ev.step (fun k => by rw [watchmanref09_Turns.j2]) ?_
      refine ev_neg (by decide) ?_
      refine Ev.step (fun k => by rw [watchmanref09_Turns.j3]) ?_
      by_cases c1 : x.f1 = 1
      · refine ev_pos c1 ?_
        by_cases c : x.f4 ≤ t
        · refine ev_pos c (ev_pos (by omega) ?_)
          have es : stp t x = [⟨x.f4, x.f0, 2⟩] := by unfold stp; rw [if_neg c4, if_pos c1, if_neg (by omega)]
          rw [es] at h1
          exact h1
        · refine ev_neg c ?_
          have es : stp t x = [] := by unfold stp; rw [if_neg c4, if_pos c1, if_pos (by omega)]
          rw [es, List.append_nil] at h1
          exact h1
      · refine ev_neg c1 ?_
        have es : stp t x = [] := by unfold stp; rw [if_neg c4, if_neg c1]
        rw [es, List.append_nil] at h1
        exact h1
theorem turns_both (m n : Int) (l : List Al) (hl : l.length ≤ 60) (t : Int) : ∃ r : List Tn × Int, Ev (fun k => due_Turns.f k m n l t) r ∧ Ev (fun k => watchmanref09_Turns.f k m n l t) r ∧ r.1.length ≤ 120 := by
  obtain ⟨b, _, h1, h2⟩ := is_both m n l (by omega)
  obtain ⟨r, hr, hi⟩ := turns_ev m n l hl t
  obtain ⟨b', g1, g2⟩ := isB_ev m n l (by omega)
  have hbb : b' = b := Bool.eq_iff_iff.2 (g2.trans h2.symm)
  subst hbb
  have det : ∀ {A : Nat → Option (List Tn × Int)} {x y : List Tn × Int}, Ev A x → Ev A y → x = y := fun ⟨K1, p1⟩ ⟨K2, p2⟩ => Option.some.inj ((p1 (K1 + K2) (by omega)).symm.trans (p2 (K1 + K2) (by omega)))
  have bad : Ev (fun k => watchmanref09_Turns.j0 k t true m n l) (([] : List Tn), (1 : Int)) := by
    refine Ev.step (fun k => by rw [watchmanref09_Turns.j0]) ?_
    exact ev_pos rfl (Ev.now _)
  cases b' with
  | false =>
    have hu : Ev (fun k => due_Turns.f k m n l t) (([] : List Tn), (1 : Int)) := by
      unfold due_Turns.f
      exact Ev.bind g1 (ev_neg (by decide) (Ev.now _))
    refine ⟨_, hu, ?_, Nat.zero_le _⟩
    unfold watchmanref09_Turns.f
    exact Ev.bind h1 (ev_neg (by decide) bad)
  | true =>
    have hw := h2.1 rfl
    by_cases c1 : t < 0
    · refine ⟨([], 1), ?_, ?_, Nat.zero_le _⟩
      · unfold due_Turns.f; exact Ev.bind g1 (ev_pos rfl (ev_pos c1 (Ev.now _)))
      · unfold watchmanref09_Turns.f; exact Ev.bind h1 (ev_pos rfl (ev_pos c1 bad))
    by_cases c2 : t > 1000000000
    · refine ⟨([], 1), ?_, ?_, Nat.zero_le _⟩
      · unfold due_Turns.f; exact Ev.bind g1 (ev_pos rfl (ev_neg c1 (ev_pos c2 (Ev.now _))))
      · unfold watchmanref09_Turns.f; refine Ev.bind h1 (ev_pos rfl (ev_neg c1 ?_)); rw [decide_eq_true c2]; exact bad
    by_cases c3 : t < n
    · refine ⟨([], 62), ?_, ?_, Nat.zero_le _⟩
      · unfold due_Turns.f; exact Ev.bind g1 (ev_pos rfl (ev_neg c1 (ev_neg c2 (ev_pos c3 (Ev.now _)))))
      · unfold watchmanref09_Turns.f
        refine Ev.bind h1 (ev_pos rfl (ev_neg c1 ?_))
        rw [decide_eq_false c2]
        refine Ev.step (fun k => by rw [watchmanref09_Turns.j0]) ?_
        exact ev_neg (by decide) (ev_pos c3 (Ev.now _))
    rcases hi with ⟨h0, hw, t0, t1, t2, hs, hp⟩ | ⟨h0, _⟩
    · have hfl := flat_len t l
      refine ⟨r, hr, ?_, by rw [hp.length_eq]; omega⟩
      unfold watchmanref09_Turns.f
      refine Ev.bind h1 (ev_pos rfl (ev_neg c1 ?_))
      rw [decide_eq_false c2]
      refine Ev.step (fun k => by rw [watchmanref09_Turns.j0]) ?_
      refine ev_neg (by decide) (ev_neg c3 ?_)
      have hres : r = (r.1, 0) := by rw [← h0]
      refine reft_l0 m n t l hl (fun x hx => (hw.2.2.2.2.2.1 x hx).1) r ?_ l.length 0 (by omega)
      rw [hres]
      exact Ev.bind (reforder_ev _ (by omega) r.1 hs hp) (Ev.now _)
    · exfalso
      obtain ⟨K, hK⟩ := hr
      obtain ⟨r', r1, r2, _⟩ := Ds.order_ev (l.flatMap (stp t)) (by have := flat_len t l; omega)
      obtain ⟨K1, hK1⟩ := ev_all (A := fun x k => due_Turns.stepT k t x) (v := fun x => stp t x) l (fun x hx => stepT_ev x (hw.2.2.2.2.2.1 x hx).1 t)
      obtain ⟨K2, hK2⟩ := Ds.order_is (l := l.flatMap (stp t)) (by have := flat_len t l; omega) r1 r2
      obtain ⟨K3, hK3⟩ := g1
      have e := hK (K + K1 + K2 + K3) (by omega)
      have hsx := hK1 (K + K1 + K2 + K3) (by omega)
      have h4 : due_Order.f (K + K1 + K2 + K3) (l.flatMap (stp t)) = some r' := hK2 _ (by omega)
      have hB : board_Is.f (K + K1 + K2 + K3) m n l = some true := hK3 _ (by omega)
      have : due_Turns.f (K + K1 + K2 + K3) m n l t = some (r', 0) := by
        unfold due_Turns.f
        rw [hB]
        simp only [Option.bind_some, if_true]
        rw [if_neg c1, if_neg c2, if_neg c3, if_pos ⟨by omega, fun x hx => by rw [hsx x hx]; rfl⟩, told_is hsx, h4]
        rfl
      exact h0 (congrArg Prod.snd (Option.some.inj (e.symm.trans this)))
/-! ### the first one -/
theorem waits_is (x : Al) : watchmanref09_waits.f x.f0.f0 x.f0.f1 x.f1 x.f2 x.f3 x.f4 = some (wtP x) := by
  unfold watchmanref09_waits.f wtP
  by_cases h : x.f1 = 1
  · rw [if_pos h, h]; rfl
  · rw [if_neg h]; simp [h]
theorem rdB (l : List Al) (b : Int) (h0 : 0 ≤ b) (h : b.toNat < l.length) : rd_T28 l b = l[b.toNat] := by
  have e := rdA l b.toNat h
  rwa [Int.toNat_of_nonneg h0] at e
/-- The best one at a place. -/
def bstA (l : List Al) (b : Int) : Option Al := if b < 0 then none else l[b.toNat]?
theorem tk_is (l : List Al) (i : Nat) (hi : i < l.length) (b : Int) (hb : b < (i : Int)) : watchmanref09_First.tk l b (i : Int) = some (wtP l[i] && (match bstA l b with | none => true | some y => decide (ltA l[i] y))) := by
  unfold watchmanref09_First.tk bstA
  rw [rdA l i hi, waits_is, Option.bind_some]
  cases hw : wtP l[i] with
  | false => rfl
  | true =>
    rw [if_pos rfl]
    by_cases c : b < 0
    · rw [if_pos c, if_pos c]; rfl
    · have hb2 : b.toNat < l.length := by omega
      rw [if_neg c, if_neg c, List.getElem?_eq_getElem hb2, rdB l b (by omega) hb2]
      show _ = some (true && decide (ltA l[i] l[b.toNat]))
      rw [Bool.true_and]
      by_cases c1 : l[i].f4 < l[b.toNat].f4
      · rw [if_pos c1, decide_eq_true (show ltA l[i] l[b.toNat] from .inl c1)]
      · rw [if_neg c1]
        by_cases c2 : l[i].f4 = l[b.toNat].f4
        · rw [if_pos c2, refless_is]; congr 1; rw [decide_eq_decide]; unfold ltA; constructor
          · intro h; exact .inr ⟨c2, h⟩
          · rintro (h | h)
            · exact absurd h c1
            · exact h.2
        · rw [if_neg c2, decide_eq_false (show ¬ ltA l[i] l[b.toNat] by unfold ltA; omega)]
theorem bs_is (l : List Al) : ∀ i : Nat, i ≤ l.length → bstA l (watchmanref09_First.bs l i) = first (l.take i)
  | 0, _ => by unfold watchmanref09_First.bs bstA first; rfl
  | i + 1, hi => by
    have hi2 : i < l.length := by omega
    have ih := bs_is l i (by omega)
    have hlt := watchmanref09_First.bs_lt l i
    have hf : first (l.take (i + 1)) = if wtP l[i] = true then stA (first (l.take i)) l[i] else first (l.take i) := by
      unfold first
      rw [List.take_succ_eq_append_getElem hi2, List.filter_append, List.foldl_append]
      by_cases c : wtP l[i] = true
      · rw [List.filter_cons_of_pos c, if_pos c]; rfl
      · rw [List.filter_cons_of_neg c, if_neg c]; rfl
    rw [hf, watchmanref09_First.bs, tk_is l i hi2 _ hlt.2, Option.getD_some, ih]
    cases hw : wtP l[i] with
    | false =>
      rw [Bool.false_and, if_neg Bool.false_ne_true, if_neg Bool.false_ne_true]
      exact ih
    | true =>
      rw [Bool.true_and, if_pos rfl]
      have hin : bstA l (i : Int) = some l[i] := by
        unfold bstA
        rw [if_neg (by omega), Int.toNat_natCast, List.getElem?_eq_getElem hi2]
      cases hb : first (l.take i) with
      | none =>
        show bstA l (if true = true then (i : Int) else _) = some l[i]
        rw [if_pos rfl]; exact hin
      | some y =>
        show bstA l (if decide (ltA l[i] y) = true then (i : Int) else _) = if ltA l[i] y then some l[i] else some y
        by_cases c : ltA l[i] y
        · rw [if_pos (decide_eq_true c), if_pos c]; exact hin
        · rw [if_neg (by rw [decide_eq_false c]; decide), if_neg c, ih, hb]
theorem reffirst_is (l : List Al) : watchmanref09_First.f l = some ((due_First.z (first l)).f0.f0, (due_First.z (first l)).f0.f1, (due_First.z (first l)).f1, (due_First.z (first l)).f2, (due_First.z (first l)).f3, (due_First.z (first l)).f4, (first l).isSome) := by
  have hb := bs_is l l.length (Nat.le_refl _)
  have hlt := watchmanref09_First.bs_lt l l.length
  rw [List.take_length] at hb
  unfold watchmanref09_First.f
  rw [if_pos (List.all_eq_true.2 (fun i hi => by
    rw [tk_is l i (List.mem_range.1 hi) _ (watchmanref09_First.bs_lt l i).2]; rfl))]
  generalize watchmanref09_First.bs l l.length = b at hb hlt ⊢
  unfold bstA at hb
  by_cases c : b < 0
  · rw [if_pos c] at hb
    rw [if_pos c, ← hb]; rfl
  · have hb2 : b.toNat < l.length := by omega
    rw [if_neg c, List.getElem?_eq_getElem hb2] at hb
    rw [if_neg c, ← hb, rdB l b (by omega) hb2]
    rfl
/-! ### the phase at a time -/
theorem at_both (m n : Int) (l : List Al) (hl : l.length ≤ 60) (s0 s1 t : Int) : ∃ r : Int × Bool, Ev (fun k => due_At.f k m n l s0 s1 t) r ∧ Ev (fun k => watchmanref09_At.f k m n l s0 s1 t) r := by
  have hg := get_is m n l s0 s1
  have hr := refget_ev m n l s0 s1 (by omega)
  unfold due_At.f watchmanref09_At.f
  rw [hg]
  simp only [Option.bind_some]
  cases hf : l.find? (spP s0 s1) with
  | none =>
    have e : getR l s0 s1 = (0, 0, 0, 0, 0, 0, false) := by unfold getR; rw [hf]
    rw [e] at hr ⊢
    exact ⟨(0, false), ev_neg (by decide) (Ev.now _), Ev.bind hr (ev_neg (by decide) (Ev.now _))⟩
  | some x =>
    have e : getR l s0 s1 = (x.f0.f0, x.f0.f1, x.f1, x.f2, x.f3, x.f4, true) := by unfold getR; rw [hf]
    rw [e] at hr ⊢
    have hp := pass_is x t
    have hq : Ev (fun k => watchmanref06_Pass.f k x.f0.f0 x.f0.f1 x.f1 x.f2 x.f3 x.f4 t) (x.f0.f0, x.f0.f1, (pA t x).f1, x.f2, x.f3, (pA t x).f4) := by
      refine ⟨8, fun k hk => ?_⟩
      obtain ⟨q, rfl⟩ : ∃ q, k = q + 8 := ⟨k - 8, by omega⟩
      show watchmanref06_Pass.f (q + 8) x.f0.f0 x.f0.f1 x.f1 x.f2 x.f3 x.f4 t = _
      rw [ref06_Pass_eq, passA_parts]
      rfl
    exact ⟨((pA t x).f1, true), ev_pos rfl (Ev.bind hp (Ev.now _)), Ev.bind hr (ev_pos rfl (Ev.bind hq (Ev.now _)))⟩
end Du
theorem DueTells_pure : watchmanlaw09_DueTells.Pure := by
  intro m n l s0 s1 t l3
  intros
  have key : ∃ K, ∀ k, K ≤ k → watchmanlaw09_DueTells.Holds k m n l s0 s1 t l3 := by
    by_cases e0 : (l.length : Int) > 60
    · exact ⟨0, fun k _ => .inl (by rw [Du.far_is, decide_eq_true e0])⟩
    have g0 : watchmanlaw09_far.f m n l = some false := by rw [Du.far_is, decide_eq_false e0]
    by_cases e1 : (l3.length : Int) > 60
    · exact ⟨0, fun k _ => .inr (.inl ⟨g0, decide_eq_true e1⟩)⟩
    have own := bown_is m n l (by omega)
    have tu : watchmanref09_Own.f l3 = some l3 := by
      unfold watchmanref09_Own.f
      rw [if_pos (by simp only [List.length_nil]; omega), List.nil_append]
    obtain ⟨⟨a, e⟩, ⟨K1, p1⟩, ⟨K2, p2⟩, al⟩ := Du.turns_both m n l (by omega) t
    obtain ⟨K3, p3⟩ := Du.next_ev m n l (by omega)
    have p4 := Du.reffirst_is l
    obtain ⟨⟨p, b⟩, ⟨K5, p5⟩, ⟨K6, p6⟩⟩ := Du.at_both m n l (by omega) s0 s1 t
    obtain ⟨K7, p7⟩ := Du.firstf_ev l (by omega)
    obtain ⟨K8, p8⟩ := Ds.same_ev a (by show a.length < 1000000; have : a.length ≤ 120 := al; omega)
    obtain ⟨od, ⟨K9, p9⟩, ⟨K10, p10⟩, hod⟩ := Du.order_both l3 (by omega)
    obtain ⟨K11, p11⟩ := Ds.same_ev od (by rw [hod.length_eq]; omega)
    obtain ⟨K12, p12⟩ := bsame_ev m n l (by omega)
    obtain ⟨K13, p13⟩ := Ds.same_ev l3 (by omega)
    refine ⟨K1 + K2 + K3 + K5 + K6 + K7 + K8 + K9 + K10 + K11 + K12 + K13, fun k hk => .inr (.inr ⟨g0, decide_eq_false e1, ?_⟩)⟩
    exact ⟨l, own, l3, tu, a, e, p1 k (by omega), p2 k (by omega), _, _, p3 k (by omega), by unfold watchmanref09_Next.f; rw [p4]; rfl, p, b, p5 k (by omega), p6 k (by omega),
      _, _, _, _, _, _, _, p7 k (by omega), p4, p8 k (by omega), od, p9 k (by omega), p10 k (by omega), p11 k (by omega), p12 k (by omega), p13 k (by omega)⟩
  obtain ⟨K, hK⟩ := key
  refine ⟨K, ?_⟩
  unfold watchmanlaw09_DueTells.f
  rw [if_pos (hK K (Nat.le_refl _))]
end Go.Proofs.Ytcfpbmdndapeaaa.F
