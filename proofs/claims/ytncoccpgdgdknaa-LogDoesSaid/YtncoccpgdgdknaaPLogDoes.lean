/- The pure statement of LogDoes: what the program's functions of chapter 23 answer is what the document's answer; all of them answer. -/
import Derived.Test.YtncoccpgdgdknaaBst
import Derived.Test.YtncoccpgdgdknaaF2
import Derived.Test.YtncoccpgdgdknaaF4
import Derived.Test.YtncoccpgdgdknaaF7
import Derived.Test.YtncoccpgdgdknaaF8
import Derived.Test.YtncoccpgdgdknaaF9
import Derived.Test.YtncoccpgdgdknaaF10
import Derived.Test.YtncoccpgdgdknaaF11
import Derived.Test.YtncoccpgdgdknaaF12
import Derived.Test.YtncoccpgdgdknaaQLogDoes
namespace Go.Proofs.Ytncoccpgdgdknaa.F
open Go.RowKit Go.Proofs.YtncoccpgdgdknaaV.PrintWords Go.Proofs.YtncoccpgdgdknaaV.PrintLast
abbrev Vt := S36
theorem ownv_is (v : Vt) (h : v.f3.length ≤ 60) : watchmanref23_OwnVote.f v.f0 v.f1 v.f2 v.f3 = some (v.f0, v.f1, v.f2, v.f3) := by
  unfold watchmanref23_OwnVote.f
  rw [own_is _ (by omega)]
  rfl
theorem ownvotes_l0 (l : List Vt) (hb : l.length ≤ 20) (hr : ∀ x ∈ l, x.f3.length ≤ 60) : ∀ (d i : Nat), i + d = l.length → Ev (fun k => watchmanref23_OwnVotes.l0 k l (l.take i) (i : Int)) l := by
  intro d
  induction d with
  | zero =>
    intro i hi
    refine Ev.step (fun k => by rw [watchmanref23_OwnVotes.l0]) ?_
    refine ev_neg (by omega) ?_
    rw [List.take_of_length_le (by omega)]
    exact Ev.now _
  | succ d ih =>
    intro i hi
    have hi2 : i < l.length := by omega
    refine Ev.step (fun k => by rw [watchmanref23_OwnVotes.l0]) ?_
    refine ev_pos (by omega) ?_
    refine ev_pos (by omega) ?_
    rw [rdV l i hi2, wr1 (by omega) (by omega), ownv_is _ (hr _ (List.getElem_mem hi2))]
    simp only [Option.bind_some]
    refine ev_pos (by rw [List.length_take]; omega) ?_
    have := ih (i + 1) (by omega)
    rw [List.take_succ_eq_append_getElem hi2] at this
    exact this
theorem ownvotes_ev (l : List Vt) (hb : l.length ≤ 20) (hr : ∀ x ∈ l, x.f3.length ≤ 60) : Ev (fun k => watchmanref23_OwnVotes.f k l) l := by
  have := ownvotes_l0 l hb hr l.length 0 (by omega)
  unfold watchmanref23_OwnVotes.f
  simpa using this
theorem since_both (l : List ByteArray) (n : Int) (h : l.length ≤ 60) : ∃ c, log_Since.f l n = some c ∧ watchmanref23_Since.f l n = some c ∧ c.length ≤ 60 := by
  unfold log_Since.f watchmanref23_Since.f
  by_cases h0 : n < 0
  · rw [if_pos h0, if_pos h0]; exact ⟨_, rfl, rfl, by simp⟩
  · rw [if_neg h0, if_neg h0]
    by_cases h1 : n ≥ (l.length : Int)
    · rw [if_pos h1, if_pos h1]; exact ⟨_, rfl, rfl, by simp⟩
    · rw [if_neg h1, if_neg h1, if_pos (by omega), if_pos (by omega), if_pos (by omega), if_pos (by omega), clone_is _ (by rw [List.length_drop]; omega), own_is _ (by rw [List.length_drop]; omega)]
      exact ⟨_, rfl, rfl, by rw [List.length_drop]; omega⟩
theorem put_both (l : List ByteArray) (n : Int) (s : ByteArray) (h : l.length ≤ 60) (hn : (Lit.int .i64 n).wf = true) : ∃ d e, log_Put.f l n s = some (d, e) ∧ watchmanref23_Put.f l n s = some (d, e) ∧ d.length ≤ 61 := by
  have hn2 : -9223372036854775808 ≤ n ∧ n ≤ 9223372036854775807 := by
    have hmin : IntKind.i64.min = -9223372036854775808 := rfl
    simpa [Lit.wf, hmin] using hn
  unfold log_Put.f watchmanref23_Put.f
  rw [clone_is _ (by omega), own_is _ (by omega), wrn (by omega) (by omega)]
  simp only [Option.bind_some]
  by_cases h1 : n = (l.length : Int) + 1
  · rw [if_pos h1, if_pos (by omega), if_pos (by unfold wrap64; omega), if_neg (by omega)]
    exact ⟨_, _, rfl, rfl, by simp; omega⟩
  · rw [if_neg h1, if_neg (by unfold wrap64; omega)]
    exact ⟨_, _, rfl, rfl, by omega⟩
theorem join_both (l m : List ByteArray) (n : Int) (hl : l.length ≤ 60) (hm : m.length ≤ 60) : ∃ g i, Ev (fun k => log_Join.f k l n m) (g, i) ∧ Ev (fun k => watchmanref23_Join.f k l n m) (g, i) ∧ g.length ≤ 120 := by
  by_cases h : 0 ≤ n ∧ n ≤ (l.length : Int)
  · refine ⟨_, _, join_yes l m n (by omega) (by omega) h.1 h.2, ?_, by rw [List.length_append, List.length_take]; omega⟩
    unfold watchmanref23_Join.f
    refine ev_neg (by omega) ?_
    rw [decide_eq_false (by omega : ¬ n > (l.length : Int))]
    refine Ev.step (fun k => by rw [watchmanref23_Join.j0]) ?_
    refine ev_neg (by decide) ?_
    refine ev_pos h.1 ?_
    refine ev_pos h.2 ?_
    rw [own_is _ (by rw [List.length_take]; omega)]
    simp only [Option.bind_some]
    exact ev_pos (by rw [List.length_take]; omega) (Ev.now _)
  · refine ⟨_, _, join_no l m n (by omega) h, ?_, by omega⟩
    unfold watchmanref23_Join.f
    have hj : Ev (fun k => watchmanref23_Join.j0 k l n m true) (l, false) := by
      refine Ev.step (fun k => by rw [watchmanref23_Join.j0]) ?_
      refine ev_pos rfl ?_
      rw [own_is _ (by omega)]
      exact Ev.now _
    by_cases h0 : n < 0
    · exact ev_pos h0 hj
    · refine ev_neg h0 ?_
      rw [decide_eq_true (by omega : n > (l.length : Int))]
      exact hj
theorem refbest_l0 (l : List Vt) (hb : l.length ≤ 20) (hr : ∀ x ∈ l, x.f3.length ≤ 60) : ∀ (d i b : Nat) (hb2 : b < l.length), i + d = l.length → (l.take i).foldl step (⟨0, 0, 0, []⟩, false) = (l[b], true) →
    Ev (fun k => watchmanref23_Best.l0 k l (b : Int) (i : Int)) ((bst l).1.f0, (bst l).1.f1, (bst l).1.f2, (bst l).1.f3, (bst l).2) := by
  intro d
  induction d with
  | zero =>
    intro i b hb2 hi hs
    rw [List.take_of_length_le (by omega)] at hs
    refine Ev.step (fun k => by rw [watchmanref23_Best.l0]) ?_
    refine ev_neg (by omega) ?_
    refine ev_pos (by omega) ?_
    refine ev_pos (by omega) ?_
    rw [rdV l b hb2, ownv_is _ (hr _ (List.getElem_mem hb2))]
    unfold bst
    rw [hs]
    exact Ev.now _
  | succ d ih =>
    intro i b hb2 hi hs
    have hi2 : i < l.length := by omega
    have hs2 : (l.take (i + 1)).foldl step (⟨0, 0, 0, []⟩, false) = step (l[b], true) l[i] := by
      rw [List.take_succ_eq_append_getElem hi2, List.foldl_append, hs]
      rfl
    refine Ev.step (fun k => by rw [watchmanref23_Best.l0]) ?_
    refine ev_pos (by omega) ?_
    refine ev_pos (by omega) ?_
    refine ev_pos (by omega) ?_
    refine ev_pos (by omega) ?_
    rw [rdV l i hi2, rdV l b hb2, wr1 (by omega) (by omega)]
    have new : ¬ worse l[i] l[b] → Ev (fun k => watchmanref23_Best.l0 k l (i : Int) ((i : Int) + 1)) ((bst l).1.f0, (bst l).1.f1, (bst l).1.f2, (bst l).1.f3, (bst l).2) := fun h => by
      refine ih (i + 1) i hi2 (by omega) ?_
      rw [hs2]; unfold step; rw [if_neg (fun h2 => h h2.2)]
    have old : worse l[i] l[b] → Ev (fun k => watchmanref23_Best.l0 k l (b : Int) ((i : Int) + 1)) ((bst l).1.f0, (bst l).1.f1, (bst l).1.f2, (bst l).1.f3, (bst l).2) := fun h => by
      refine ih (i + 1) b hb2 (by omega) ?_
      rw [hs2]; unfold step; rw [if_pos ⟨rfl, h⟩]
    unfold worse at new old
    by_cases h1 : l[i].f1 > l[b].f1
    · exact ev_pos h1 (new (by omega))
    · refine ev_neg h1 ?_
      by_cases h2 : l[i].f1 = l[b].f1
      · refine ev_pos h2 ?_
        by_cases h3 : (l[i].f3.length : Int) > (l[b].f3.length : Int)
        · exact ev_pos h3 (new (by omega))
        · exact ev_neg h3 (old (by omega))
      · exact ev_neg h2 (old (by omega))
theorem refbest_ev (l : List Vt) (hb : l.length ≤ 20) (hr : ∀ x ∈ l, x.f3.length ≤ 60) : Ev (fun k => watchmanref23_Best.f k l) ((bst l).1.f0, (bst l).1.f1, (bst l).1.f2, (bst l).1.f3, (bst l).2) := by
  unfold watchmanref23_Best.f
  cases l with
  | nil => exact ev_pos rfl (Ev.now _)
  | cons x r =>
    refine ev_neg (by simp; omega) ?_
    refine refbest_l0 (x :: r) hb hr r.length 1 0 (by simp) (by simp; omega) ?_
    simp only [List.take_succ_cons, List.take_zero, List.foldl_cons, List.foldl_nil, List.getElem_cons_zero]
    unfold step
    rw [if_neg (by simp)]
theorem refwith_l0 (l : List Vt) (v : Vt) (hb : l.length ≤ 20) (hr : ∀ x ∈ l, x.f3.length ≤ 60) (hv : v.f3.length ≤ 60) : ∀ (d i : Nat) (out : List Vt), i + d = l.length → out.length ≤ i →
    Ev (fun k => watchmanref23_With.l0 k l out (i : Int) v.f0 v.f1 v.f2 v.f3) (out ++ (l.drop i).filter (fun x => !decide (x.f0 = v.f0)) ++ [v]) := by
  intro d
  induction d with
  | zero =>
    intro i out hi ho
    refine Ev.step (fun k => by rw [watchmanref23_With.l0]) ?_
    refine ev_neg (by omega) ?_
    rw [ownv_is _ hv, List.drop_eq_nil_of_le (by omega)]
    simp only [Option.bind_some, List.filter_nil, List.append_nil]
    exact ev_pos (by omega) (Ev.now _)
  | succ d ih =>
    intro i out hi ho
    have hi2 : i < l.length := by omega
    refine Ev.step (fun k => by rw [watchmanref23_With.l0]) ?_
    refine ev_pos (by omega) ?_
    refine ev_pos (by omega) ?_
    rw [rdV l i hi2, wr1 (by omega) (by omega), List.drop_eq_getElem_cons hi2]
    by_cases h : l[i].f0 = v.f0
    · refine ev_pos h ?_
      rw [List.filter_cons_of_neg (by simp [h])]
      exact ih (i + 1) out (by omega) (by omega)
    · refine ev_neg h ?_
      rw [ownv_is _ (hr _ (List.getElem_mem hi2))]
      simp only [Option.bind_some]
      refine ev_pos (by omega) ?_
      rw [List.filter_cons_of_pos (by simp [h])]
      have := ih (i + 1) (out ++ [l[i]]) (by omega) (by simp; omega)
      simpa using this
theorem refwith_ev (l : List Vt) (v : Vt) (hb : l.length ≤ 20) (hr : ∀ x ∈ l, x.f3.length ≤ 60) (hv : v.f3.length ≤ 60) :
    Ev (fun k => watchmanref23_With.f k l v.f0 v.f1 v.f2 v.f3) (l.filter (fun x => !decide (x.f0 = v.f0)) ++ [v]) := by
  have := refwith_l0 l v hb hr hv l.length 0 [] (by omega) (by simp)
  simp only [List.nil_append, List.drop_zero] at this
  exact this
theorem sames_l0 (l : List Vt) (hb : l.length ≤ 40) (hr : ∀ x ∈ l, x.f3.length ≤ 60) : ∀ (d i : Nat), i + d = l.length → Ev (fun k => watchmanref23_SameVotes.l0 k l l (i : Int)) true := by
  intro d
  induction d with
  | zero =>
    intro i hi
    refine Ev.step (fun k => by rw [watchmanref23_SameVotes.l0]) ?_
    exact ev_neg (by omega) (Ev.now _)
  | succ d ih =>
    intro i hi
    have hi2 : i < l.length := by omega
    refine Ev.step (fun k => by rw [watchmanref23_SameVotes.l0]) ?_
    refine ev_pos (by omega) ?_
    refine ev_pos (by omega) ?_
    refine ev_pos (by omega) ?_
    rw [rdV l i hi2, wr1 (by omega) (by omega)]
    have hs := same_ev l[i] l[i] (hr _ (List.getElem_mem hi2))
    rw [decide_eq_true (show same l[i] l[i] from ⟨rfl, rfl, rfl, rfl⟩)] at hs
    refine Ev.bind hs ?_
    exact ev_pos rfl (ih (i + 1) (by omega))
theorem sames_ev (l : List Vt) (hb : l.length ≤ 40) (hr : ∀ x ∈ l, x.f3.length ≤ 60) : Ev (fun k => watchmanref23_SameVotes.f k l l) true := by
  unfold watchmanref23_SameVotes.f
  exact ev_pos rfl (sames_l0 l hb hr l.length 0 (by omega))
theorem reffront_ev (a b : List ByteArray) (ha : a.length ≤ 60) : Ev (fun k => watchmanref23_Front.f k a b) (pre a b) := by
  unfold watchmanref23_Front.f
  by_cases h : (a.length : Int) ≤ (b.length : Int)
  · refine ev_pos h ?_
    refine ev_pos (by omega) ?_
    have h1 := texts_ev a (b.take ((a.length : Int)).toNat) (by omega)
    have e : decide (ks a = ks (b.take ((a.length : Int)).toNat)) = pre a b := by
      rw [ks_take, Int.toNat_natCast]
      have h2 := pre_iff a b
      cases hp : pre a b with
      | true => exact decide_eq_true (h2.1 hp)
      | false => exact decide_eq_false (fun h3 => by rw [h2.2 h3] at hp; cases hp)
    rw [e] at h1
    exact Ev.bind h1 (Ev.now _)
  · refine ev_neg h ?_
    have e : pre a b = false := by
      cases hp : pre a b with
      | false => rfl
      | true =>
        have h2 := congrArg List.length ((pre_iff a b).1 hp)
        rw [ks_len, List.length_take, ks_len] at h2
        omega
    rw [e]
    exact Ev.now _
theorem refcommon_l1 (a : List ByteArray) (r : List (List ByteArray)) (i : Nat) (hi : i < a.length) (ha : a.length < 4611686018427387904) (hr : r.length < 4611686018427387904) (hic : i ≤ cm a r)
    (hout : i + 1 ≤ cm a r → Ev (fun k => watchmanref23_Common.l0 k (a :: r) ((i + 1 : Nat) : Int)) (cm a r : Int)) :
    ∀ (d j : Nat), j + d = r.length → (∀ m ∈ r.take j, i + 1 ≤ cp (ks a) (ks m)) → Ev (fun k => watchmanref23_Common.l1 k (a :: r) (i : Int) ((j + 1 : Nat) : Int)) (cm a r : Int) := by
  intro d
  induction d with
  | zero =>
    intro j hj hall
    refine Ev.step (f := fun k => watchmanref23_Common.l0 k (a :: r) ((i + 1 : Nat) : Int)) (fun k => ?_) (hout ?_)
    · simp only [watchmanref23_Common.l1]
      rw [if_neg (by simp; omega), wr1 (by omega) (by omega)]
      rfl
    · rw [List.take_of_length_le (by omega)] at hall
      exact (le_cm a r _).2 ⟨hi, hall⟩
  | succ d ih =>
    intro j hj hall
    have hjl : j < r.length := by omega
    have hm : r[j] ∈ r := List.getElem_mem hjl
    have hcp : i ≤ cp (ks a) (ks r[j]) := ((le_cm a r i).1 hic).2 _ hm
    have hmore := cp_more a r[j] i hcp hi
    have hno : ¬ (i + 1 ≤ cp (ks a) (ks r[j])) → cm a r = i := fun h => by
      rcases Nat.lt_or_ge i (cm a r) with h1 | h1
      · exact absurd (((le_cm a r (i + 1)).1 h1).2 _ hm) h
      · omega
    have e1 : rd_L2 (a :: r) ((j + 1 : Nat) : Int) = r[j] := by rw [rdL (a :: r) (j + 1) (by simp; omega)]; rfl
    have e0 : rd_L2 (a :: r) 0 = a := rfl
    have el : ((a :: r).length : Int) = (r.length : Int) + 1 := by simp
    by_cases h1 : i < r[j].length
    · by_cases h2 : (rdOf ByteArray.empty r[j] (i : Int)).toList = (rdOf ByteArray.empty a (i : Int)).toList
      · refine Ev.step (f := fun k => watchmanref23_Common.l1 k (a :: r) (i : Int) ((j + 1 + 1 : Nat) : Int)) (fun k => ?_) (ih (j + 1) (by omega) ?_)
        · simp only [watchmanref23_Common.l1]
          rw [e1, e0, el, if_pos (by omega), if_pos (by omega), if_neg (by omega), if_pos (by omega), if_pos (by omega), if_pos (by omega), if_pos (by omega), if_pos h2, wr1 (by omega) (by omega)]
          rfl
        · intro m hm2
          rw [List.take_succ_eq_append_getElem hjl, List.mem_append] at hm2
          rcases hm2 with hm2 | hm2
          · exact hall m hm2
          · obtain rfl := List.mem_singleton.1 hm2
            exact hmore.2 ⟨h1, h2⟩
      · rw [hno (fun h => h2 (hmore.1 h).2)]
        refine Ev.step (f := fun _ => some (i : Int)) (fun k => ?_) (Ev.now _)
        simp only [watchmanref23_Common.l1]
        rw [e1, e0, el, if_pos (by omega), if_pos (by omega), if_neg (by omega), if_pos (by omega), if_pos (by omega), if_pos (by omega), if_pos (by omega), if_neg h2]
    · rw [hno (fun h => h1 (hmore.1 h).1)]
      refine Ev.step (f := fun _ => some (i : Int)) (fun k => ?_) (Ev.now _)
      simp only [watchmanref23_Common.l1]
      rw [e1, el, if_pos (by omega), if_pos (by omega), if_pos (by omega)]
theorem refcommon_l0 (a : List ByteArray) (r : List (List ByteArray)) (ha : a.length < 4611686018427387904) (hr : r.length < 4611686018427387904) :
    ∀ (d i : Nat), i + d = a.length → i ≤ cm a r → Ev (fun k => watchmanref23_Common.l0 k (a :: r) (i : Int)) (cm a r : Int) := by
  intro d
  have e0 : rd_L2 (a :: r) 0 = a := rfl
  induction d with
  | zero =>
    intro i hi hic
    have e : cm a r = a.length := by
      have := ((le_cm a r _).1 (Nat.le_refl _)).1
      omega
    rw [e]
    refine Ev.step (f := fun _ => some (a.length : Int)) (fun k => ?_) (Ev.now _)
    simp only [watchmanref23_Common.l0]
    rw [e0, if_pos (by simp; try omega), if_neg (by omega), show (i : Int) = (a.length : Int) by omega]
  | succ d ih =>
    intro i hi hic
    refine Ev.step (f := fun k => watchmanref23_Common.l1 k (a :: r) (i : Int) ((0 + 1 : Nat) : Int)) (fun k => ?_) (refcommon_l1 a r i (by omega) ha hr hic (fun h => ih (i + 1) (by omega) h) r.length 0 (by omega) (by simp))
    simp only [watchmanref23_Common.l0]
    rw [e0, if_pos (by simp; try omega), if_pos (by omega)]
    rfl
theorem refcommon_ev (a : List ByteArray) (r : List (List ByteArray)) (ha : a.length < 4611686018427387904) (hr : r.length < 4611686018427387904) : Ev (fun k => watchmanref23_Common.f k (a :: r)) (cm a r : Int) := by
  unfold watchmanref23_Common.f
  refine ev_neg (by simp; try omega) ?_
  exact refcommon_l0 a r ha hr a.length 0 (by omega) (Nat.zero_le _)
theorem smudge_l0 (n : Nat) (hn : n < 1000000) : ∀ (d i k : Nat) (l : List ByteArray), l.length = n → i + d = n → d < k → ∃ r, watchmanlaw23_smudge.l0 k l (i : Int) = some r := by
  intro d
  induction d with
  | zero =>
    intro i k l hl hi hk
    obtain ⟨k, rfl⟩ : ∃ m, k = m + 1 := ⟨k - 1, by omega⟩
    exact ⟨l, by rw [watchmanlaw23_smudge.l0, if_neg (by omega)]⟩
  | succ d ih =>
    intro i k l hl hi hk
    obtain ⟨k, rfl⟩ : ∃ m, k = m + 1 := ⟨k - 1, by omega⟩
    obtain ⟨r, hr⟩ := ih (i + 1) k (l.set i (⟨#[115, 109, 117, 100, 103, 101]⟩ : ByteArray)) (by rw [List.length_set]; exact hl) (by omega) (by omega)
    refine ⟨r, ?_⟩
    rw [watchmanlaw23_smudge.l0, if_pos (by omega), if_pos (by omega), wr1 (by omega) (by omega), Int.toNat_natCast]
    exact hr
theorem smudge_is (l : List ByteArray) (k : Nat) (hl : l.length ≤ 120) (hk : 121 ≤ k) : ∃ r, watchmanlaw23_smudge.f k l = some r :=
  smudge_l0 l.length (by omega) l.length 0 k l rfl (by omega) (by omega)
theorem filter_le (p : Vt → Bool) (l : List Vt) : (l.filter p).length ≤ l.length := List.length_filter_le _ _
theorem LogDoes_pure : watchmanlaw23_LogDoes.Pure := by
  intro a b n s l v0 v1 v2 v3 ha _ hb _ hn _ hl hls _ _ _ hv _
  have key : ∃ K, ∀ k, K ≤ k → watchmanlaw23_LogDoes.Holds k a b n s l v0 v1 v2 v3 := by
    have hls2 : ∀ x ∈ l, x.f3.length < 4611686018427387904 := by
      intro x hx
      have := (hls x hx).2.2.2.1
      omega
    obtain ⟨f0, ⟨K0, g0⟩, h0⟩ := far_ev a (by omega)
    obtain ⟨f1, ⟨K1, g1⟩, h1⟩ := far_ev b (by omega)
    obtain ⟨f2, ⟨K2, g2⟩, h2⟩ := big_ev l (by omega) hls2
    obtain ⟨f3, ⟨K3, g3⟩, h3⟩ := big_ev [(⟨v0, v1, v2, v3⟩ : Vt)] (by simp) (by intro x hx; rw [List.mem_singleton.1 hx]; show v3.length < _; omega)
    by_cases e0 : f0 = true
    · subst e0; exact ⟨K0, fun k hk => .inl (g0 k hk)⟩
    replace e0 : f0 = false := by simpa using e0
    subst e0
    by_cases e1 : f1 = true
    · subst e1; exact ⟨K0 + K1, fun k hk => .inr (.inl ⟨g0 k (by omega), g1 k (by omega)⟩)⟩
    replace e1 : f1 = false := by simpa using e1
    subst e1
    by_cases e2 : f2 = true
    · subst e2; exact ⟨K0 + K1 + K2, fun k hk => .inr (.inr (.inl ⟨g0 k (by omega), g1 k (by omega), g2 k (by omega)⟩))⟩
    replace e2 : f2 = false := by simpa using e2
    subst e2
    by_cases e3 : f3 = true
    · subst e3; exact ⟨K0 + K1 + K2 + K3, fun k hk => .inr (.inr (.inr (.inl ⟨g0 k (by omega), g1 k (by omega), g2 k (by omega), g3 k (by omega)⟩)))⟩
    replace e3 : f3 = false := by simpa using e3
    subst e3
    have ha6 := h0 rfl
    have hb6 := h1 rfl
    obtain ⟨hl2, hr6⟩ := h2 rfl
    have hv6 : v3.length ≤ 60 := (h3 rfl).2 ⟨v0, v1, v2, v3⟩ (by simp)
    obtain ⟨c, c1, c2, c3⟩ := since_both a n ha6
    obtain ⟨d, e, d1, d2, d3⟩ := put_both a n s ha6 hn
    obtain ⟨g, i, ⟨K4, p4⟩, ⟨K5, p5⟩, gl⟩ := join_both a b n ha6 hb6
    obtain ⟨K6, p6⟩ := ownvotes_ev l hl2 hr6
    obtain ⟨K7, p7⟩ := best_ev l (by omega) hr6
    obtain ⟨K8, p8⟩ := refbest_ev l hl2 hr6
    obtain ⟨K9, p9⟩ := with_ev l (⟨v0, v1, v2, v3⟩ : Vt) hl2 hr6 hv6
    obtain ⟨K10, p10⟩ := refwith_ev l (⟨v0, v1, v2, v3⟩ : Vt) hl2 hr6 hv6
    have hzl : (l.filter (fun x => !decide (x.f0 = v0)) ++ [(⟨v0, v1, v2, v3⟩ : Vt)]).length ≤ 21 := by
      rw [List.length_append]
      exact Nat.succ_le_succ (Nat.le_trans (filter_le _ l) hl2)
    have hz6 : ∀ x ∈ l.filter (fun x => !decide (x.f0 = v0)) ++ [(⟨v0, v1, v2, v3⟩ : Vt)], x.f3.length ≤ 60 := by
      intro x hx
      rcases List.mem_append.1 hx with hx | hx
      · exact hr6 x ((List.mem_filter.1 hx).1)
      · rw [List.mem_singleton.1 hx]; exact hv6
    have hx6 : (bst l).1.f3.length ≤ 60 := by
      by_cases hbl : (bst l).2 = true
      · exact hr6 _ ((bst_spec l).2.1 hbl)
      · have : l = [] := by
          cases l with
          | nil => rfl
          | cons x r => exact absurd ((bst_spec (x :: r)).1.2 (by simp)) hbl
        subst this
        simp [bst]
    have tx : ∀ x : List ByteArray, x.length ≤ 120 → Ev (fun k => watchmanref01_Texts.f k x x) true := fun x hx => by
      have := texts_ev x x (by omega)
      rwa [decide_eq_true rfl] at this
    obtain ⟨K11, p11⟩ := tx c (by omega)
    obtain ⟨K12, p12⟩ := tx d (by omega)
    obtain ⟨K13, p13⟩ := tx g (by omega)
    obtain ⟨K14, p14⟩ := same_ev (bst l).1 (bst l).1 hx6
    obtain ⟨K15, p15⟩ := sames_ev _ (by omega) hz6
    obtain ⟨K16, p16⟩ := front_ev a b (by omega)
    obtain ⟨K17, p17⟩ := reffront_ev a b ha6
    obtain ⟨K18, p18⟩ := common_ev a [b, g] (by omega) (by simp)
    obtain ⟨K19, p19⟩ := refcommon_ev a [b, g] (by omega) (by simp)
    obtain ⟨K20, p20⟩ := joined_ev
    obtain ⟨K21, p21⟩ := tx a (by omega)
    obtain ⟨K22, p22⟩ := sames_ev l (by omega) hr6
    refine ⟨K0 + K1 + K2 + K3 + K4 + K5 + K6 + K7 + K8 + K9 + K10 + K11 + K12 + K13 + K14 + K15 + K16 + K17 + K18 + K19 + K20 + K21 + K22 + 121, fun k hk => .inr (.inr (.inr (.inr ⟨⟨g0 k (by omega), g1 k (by omega), g2 k (by omega), g3 k (by omega)⟩, ?_⟩)))⟩
    obtain ⟨c', hc'⟩ := smudge_is c k (by omega) (by omega)
    obtain ⟨d', hd'⟩ := smudge_is d k (by omega) (by omega)
    obtain ⟨g', hg'⟩ := smudge_is g k (by omega) (by omega)
    obtain ⟨x', hx'⟩ := smudge_is (bst l).1.f3 k (by omega) (by omega)
    have q14 := p14 k (by omega)
    simp only [decide_eq_true (show same (bst l).1 (bst l).1 from ⟨rfl, rfl, rfl, rfl⟩)] at q14
    exact ⟨a, own_is a (by omega), l, p6 k (by omega), c, c1, d, e, d1, d, d2, g, i, p4 k (by omega), g, p5 k (by omega), _, _, _, _, _, p7 k (by omega), _, _, _, _, p8 k (by omega), _, p9 k (by omega), c, c2, p11 k (by omega), p12 k (by omega), p13 k (by omega), q14, _, p10 k (by omega), p15 k (by omega),
      _, p16 k (by omega), p17 k (by omega), _, p18 k (by omega), p19 k (by omega), by unfold log_Common.f; rfl, by simp, c', hc', d', hd', g', hg', x', hx', fun y hy => smudge_is y.f3 k (by have := hz6 y hy; omega) (by omega), p20 k (by omega), p21 k (by omega), p22 k (by omega)⟩
  obtain ⟨K, hK⟩ := key
  refine ⟨K, ?_⟩
  unfold watchmanlaw23_LogDoes.f
  rw [if_pos (hK K (Nat.le_refl _))]
end Go.Proofs.Ytncoccpgdgdknaa.F
