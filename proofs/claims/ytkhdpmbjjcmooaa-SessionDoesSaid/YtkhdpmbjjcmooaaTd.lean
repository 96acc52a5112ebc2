/- What the oldest client is, what Open and Put leave, and texts compared: chapter 18. No condition but sizes. -/
import Derived.Test.YtkhdpmbjjcmooaaF8
import Derived.Test.YtkhdpmbjjcmooaaF17
import Derived.Test.YtkhdpmbjjcmooaaF1
import Derived.Test.YtkhdpmbjjcmooaaS
import Derived.KernelRfl
set_option linter.unusedSimpArgs false
namespace Go.Proofs.Ytkhdpmbjjcmooaa.F
open Go.RowKit Go.Proofs.YtkhdpmbjjcmooaaV.PrintWords Go.Proofs.YtkhdpmbjjcmooaaV.PrintLast
/-! ### what is looked at -/
theorem short_l0 (a : List ByteArray) (hb : a.length < 9223372036854775807) : ∀ (d i : Nat), i + d = a.length → ∃ b, Ev (fun k => watchmanref01_Short.l0 k a (i : Int)) b := by
  intro d
  induction d with
  | zero =>
    intro i hi
    refine ⟨_, Ev.step (f := fun _ => some (decide ((a.length : Int) ≤ 60))) (fun k => ?_) (Ev.now _)⟩
    simp only [watchmanref01_Short.l0]
    rw [if_neg (by omega)]
  | succ d ih =>
    intro i hi
    by_cases he : ((rdOf ByteArray.empty a (i : Int)).size : Int) > 300
    · refine ⟨false, Ev.step (f := fun _ => some false) (fun k => ?_) (Ev.now _)⟩
      simp only [watchmanref01_Short.l0]
      rw [if_pos (by omega), if_pos (by omega), if_pos he]
    · obtain ⟨b, h1⟩ := ih (i + 1) (by omega)
      refine ⟨b, Ev.step (f := fun k => watchmanref01_Short.l0 k a ((i + 1 : Nat) : Int)) (fun k => ?_) h1⟩
      simp only [watchmanref01_Short.l0]
      rw [if_pos (by omega), if_pos (by omega), if_neg he, wr1 (by omega) (by omega)]
      rfl
theorem bigA_ev (a n : Int) (s : List ByteArray) (hb : s.length < 9223372036854775807) : ∃ b, Ev (fun k => watchmanref18_BigAnswer.f k a n s) b ∧ (b = false → s.length ≤ 40) := by
  unfold watchmanref18_BigAnswer.f
  by_cases h : (s.length : Int) > 40
  · exact ⟨true, ev_pos h (Ev.now _), fun h => (by cases h)⟩
  · obtain ⟨b, h1⟩ := short_l0 s hb s.length 0 (by omega)
    exact ⟨!b, ev_neg h (Ev.bind (f := fun _ t => some (!t)) h1 (Ev.now _)), fun _ => by omega⟩
theorem big_l0 (l : List Cl) (hb : l.length < 4611686018427387904) (hr : ∀ x ∈ l, x.f3.f2.length < 4611686018427387904) : ∀ (d i : Nat), i + d = l.length →
    ∃ b, Ev (fun k => watchmanref18_Big.l0 k l (i : Int)) b ∧ (b = false → l.length ≤ 50 ∧ ∀ x ∈ l.drop i, x.f3.f2.length ≤ 40) := by
  intro d
  induction d with
  | zero =>
    intro i hi
    refine ⟨decide ((l.length : Int) > 50), ?_, fun h => ⟨by have := of_decide_eq_false h; omega, by rw [List.drop_eq_nil_of_le (by omega)]; simp⟩⟩
    refine Ev.step (fun k => by rw [watchmanref18_Big.l0]) ?_
    refine ev_neg (by omega) ?_
    refine Ev.step (fun k => by rw [watchmanref18_Big.j1]) ?_
    exact ev_neg (by decide) (Ev.now _)
  | succ d ih =>
    intro i hi
    by_cases h20 : (l.length : Int) ≤ 50
    · have hi2 : i < l.length := by omega
      obtain ⟨s, h1, h2⟩ := bigA_ev l[i].f3.f0 l[i].f3.f1 l[i].f3.f2 (by have := hr _ (List.getElem_mem hi2); omega)
      obtain ⟨b, h3, h4⟩ := ih (i + 1) (by omega)
      cases s with
      | false =>
        refine ⟨b, ?_, fun h => ⟨(h4 h).1, ?_⟩⟩
        · refine Ev.step (fun k => by rw [watchmanref18_Big.l0]) ?_
          refine ev_pos (by omega) ?_
          rw [decide_eq_true h20]
          refine Ev.step (fun k => by rw [watchmanref18_Big.j1]) ?_
          refine ev_pos rfl ?_
          refine ev_pos (by omega) ?_
          refine ev_pos (by omega) ?_
          rw [rdC l i hi2]
          refine Ev.bind h1 ?_
          refine ev_neg (by decide) ?_
          rw [wr1 (by omega) (by omega)]
          exact h3
        · rw [List.drop_eq_getElem_cons hi2]
          intro x hx
          rcases List.mem_cons.1 hx with rfl | hx
          · exact h2 rfl
          · exact (h4 h).2 x hx
      | true =>
        refine ⟨true, ?_, fun h => by cases h⟩
        refine Ev.step (fun k => by rw [watchmanref18_Big.l0]) ?_
        refine ev_pos (by omega) ?_
        rw [decide_eq_true h20]
        refine Ev.step (fun k => by rw [watchmanref18_Big.j1]) ?_
        refine ev_pos rfl ?_
        refine ev_pos (by omega) ?_
        refine ev_pos (by omega) ?_
        rw [rdC l i hi2]
        refine Ev.bind h1 ?_
        exact ev_pos rfl (Ev.now _)
    · refine ⟨true, ?_, fun h => by cases h⟩
      refine Ev.step (fun k => by rw [watchmanref18_Big.l0]) ?_
      refine ev_pos (by omega) ?_
      rw [decide_eq_false h20]
      refine Ev.step (fun k => by rw [watchmanref18_Big.j1]) ?_
      refine ev_neg (by decide) ?_
      rw [decide_eq_true (by omega : (l.length : Int) > 50)]
      exact Ev.now _
theorem big_ev (l : List Cl) (hb : l.length < 4611686018427387904) (hr : ∀ x ∈ l, x.f3.f2.length < 4611686018427387904) :
    ∃ b, Ev (fun k => watchmanref18_Big.f k l) b ∧ (b = false → l.length ≤ 50 ∧ ∀ x ∈ l, x.f3.f2.length ≤ 40) := by
  obtain ⟨b, h1, h2⟩ := big_l0 l hb hr l.length 0 (by omega)
  exact ⟨b, h1, fun h => by simpa using h2 h⟩
/-! ### texts compared -/
theorem texts_l0 (a : List ByteArray) (hb : a.length < 9223372036854775807) : ∀ (d i : Nat), i + d = a.length → Ev (fun k => watchmanref01_Texts.l0 k a a (i : Int)) true := by
  intro d
  induction d with
  | zero =>
    intro i hi
    refine Ev.step (fun k => by rw [watchmanref01_Texts.l0]) ?_
    exact ev_neg (by omega) (Ev.now _)
  | succ d ih =>
    intro i hi
    have h1 := ih (i + 1) (by omega)
    have e : ((i + 1 : Nat) : Int) = wrap64 ((i : Int) + 1) := by rw [wr1 (by omega) (by omega)]; rfl
    rw [e] at h1
    refine Ev.step (fun k => by rw [watchmanref01_Texts.l0]) ?_
    exact ev_pos (by omega) (ev_pos (by omega) (ev_pos (by omega) (ev_pos rfl h1)))
theorem same_ev (a n : Int) (s : List ByteArray) (hb : s.length < 9223372036854775807) : Ev (fun k => watchmanref18_SameAnswer.f k a n s a n s) true := by
  unfold watchmanref18_SameAnswer.f
  refine ev_pos rfl (ev_pos rfl ?_)
  refine Ev.bind (a := true) ?_ (Ev.now _)
  unfold watchmanref01_Texts.f
  exact ev_pos rfl (texts_l0 s hb s.length 0 (by omega))
/-! ### the oldest -/
def older (x b : Cl) : Prop := x.f2 < b.f2 ∨ (x.f2 = b.f2 ∧ x.f0 < b.f0)
instance (x b : Cl) : Decidable (older x b) := by unfold older; infer_instance
theorem cmp_is (a b : Int) : cmp_Compare_int.f a b = some (if a < b then -1 else if a > b then 1 else 0) := by
  have hn : ∀ z : Int, cmp_isNaN_int.f z = some false := fun z => by unfold cmp_isNaN_int.f; simp
  unfold cmp_Compare_int.f
  rw [hn, hn]
  simp only [Option.bind_some]
  rw [if_neg (by decide), if_neg (by decide)]
  by_cases h1 : a < b
  · rw [if_pos h1, if_pos h1]
  · rw [if_neg h1, if_neg h1]
    by_cases h2 : a > b
    · rw [if_pos h2, if_pos h2]
    · rw [if_neg h2, if_neg h2]
theorem or_ev (a b : Int) : Ev (fun k => cmp_Or_int.f k [a, b]) (if a = 0 then b else a) := by
  unfold cmp_Or_int.f
  refine Ev.step (fun k => by rw [cmp_Or_int.l0]) ?_
  refine ev_pos (show (0 : Int) < 2 by decide) (ev_pos (by decide) (ev_pos (show (0 : Int) < 2 by decide) ?_))
  have e0 : rd [a, b] 0 = a := rfl
  have e1 : rd [a, b] 1 = b := rfl
  have w1 : wrap64 (0 + 1) = 1 := by unfold wrap64; omega
  have w2 : wrap64 (1 + 1) = 2 := by unfold wrap64; omega
  rw [e0]
  by_cases h : a = 0
  · rw [if_pos h, w1]
    refine ev_pos h ?_
    refine Ev.step (fun k => by rw [cmp_Or_int.l0]) ?_
    refine ev_pos (show (1 : Int) < 2 by decide) (ev_pos (by decide) (ev_pos (show (1 : Int) < 2 by decide) ?_))
    rw [e1]
    by_cases h2 : b = 0
    · refine ev_pos h2 ?_
      rw [w2]
      refine Ev.step (fun k => by rw [cmp_Or_int.l0]) ?_
      rw [h2]
      exact ev_neg (show ¬ (2 : Int) < 2 by decide) (Ev.now _)
    · exact ev_neg h2 (Ev.now _)
  · rw [if_neg h]
    exact ev_neg h (Ev.now _)
theorem or_neg (x b : Cl) : ((if (if x.f2 < b.f2 then (-1 : Int) else if x.f2 > b.f2 then 1 else 0) = 0 then (if x.f0 < b.f0 then (-1 : Int) else if x.f0 > b.f0 then 1 else 0) else (if x.f2 < b.f2 then (-1 : Int) else if x.f2 > b.f2 then 1 else 0)) < 0) ↔ older x b := by
  unfold older
  by_cases h1 : x.f2 < b.f2
  · simp [h1]
  · by_cases h2 : x.f2 > b.f2
    · simp only [if_neg h1, if_pos h2]; omega
    · have e : x.f2 = b.f2 := by omega
      simp only [if_neg h1, if_neg h2, if_true]
      by_cases h3 : x.f0 < b.f0
      · simp [h3, e]
      · by_cases h4 : x.f0 > b.f0
        · simp only [if_neg h3, if_pos h4]; omega
        · simp only [if_neg h3, if_neg h4]; omega
def old2 (b x : Cl) : Cl := if older x b then x else b
theorem old_l0 (l : List Cl) (hb : l.length < 4611686018427387904) : ∀ (d i : Nat) (b : Cl), i + d = l.length →
    Ev (fun k => session_oldest.l0 k l (l.length : Int) (i : Int) b.f0 b.f1 b.f2 b.f3.f0 b.f3.f1 b.f3.f2) (((l.drop i).foldl old2 b).f0, ((l.drop i).foldl old2 b).f1, ((l.drop i).foldl old2 b).f2, ((l.drop i).foldl old2 b).f3.f0, ((l.drop i).foldl old2 b).f3.f1, ((l.drop i).foldl old2 b).f3.f2) := by
  intro d
  induction d with
  | zero =>
    intro i b hi
    refine Ev.step (fun k => by rw [session_oldest.l0]) ?_
    refine ev_neg (by omega) ?_
    rw [List.drop_eq_nil_of_le (by omega)]
    exact Ev.now _
  | succ d ih =>
    intro i b hi
    have hi2 : i < l.length := by omega
    have h1 := ih (i + 1) (old2 b l[i]) (by omega)
    have e : ((i + 1 : Nat) : Int) = wrap64 ((i : Int) + 1) := by rw [wr1 (by omega) (by omega)]; rfl
    rw [e] at h1
    rw [List.drop_eq_getElem_cons hi2, List.foldl_cons]
    refine Ev.step (fun k => by rw [session_oldest.l0]) ?_
    refine ev_pos (by omega) (ev_pos (by omega) (ev_pos (by omega) ?_))
    rw [rdC l i hi2, cmp_is, cmp_is]
    simp only [Option.bind_some]
    refine Ev.bind (or_ev _ _) ?_
    by_cases ho : older l[i] b
    · rw [show old2 b l[i] = l[i] from if_pos ho] at h1 ⊢
      exact ev_pos ((or_neg _ _).2 ho) h1
    · rw [show old2 b l[i] = b from if_neg ho] at h1 ⊢
      exact ev_neg (fun h => ho ((or_neg _ _).1 h)) h1
def old (l : List Cl) (h : 0 < l.length) : Cl := (l.drop 1).foldl old2 l[0]
theorem old_ev (l : List Cl) (h : 0 < l.length) (hb : l.length < 4611686018427387904) :
    Ev (fun k => session_oldestJ.f k ((rd_T39 l 0).f0) ((rd_T39 l 0).f1) ((rd_T39 l 0).f2) ((rd_T39 l 0).f3.f0) ((rd_T39 l 0).f3.f1) ((rd_T39 l 0).f3.f2) (l.drop 1)) ((old l h).f0, (old l h).f1, (old l h).f2, (old l h).f3.f0, (old l h).f3.f1, (old l h).f3.f2) := by
  have e0 : rd_T39 l 0 = l[0] := rdC l 0 h
  rw [e0]
  exact old_l0 (l.drop 1) (by rw [List.length_drop]; omega) (l.drop 1).length 0 l[0] (by omega)
theorem old2_le (b x : Cl) : (old2 b x = b ∨ old2 b x = x) ∧ ¬ older b (old2 b x) ∧ ¬ older x (old2 b x) := by
  unfold old2
  by_cases h : older x b
  · rw [if_pos h]
    unfold older at h ⊢
    exact ⟨.inr rfl, by omega, by omega⟩
  · rw [if_neg h]
    unfold older at h ⊢
    exact ⟨.inl rfl, by omega, by omega⟩
theorem fold_old (l : List Cl) : ∀ b : Cl, ((l.foldl old2 b) = b ∨ (l.foldl old2 b) ∈ l) ∧ ¬ older b (l.foldl old2 b) ∧ ∀ x ∈ l, ¬ older x (l.foldl old2 b) := by
  induction l with
  | nil => intro b; exact ⟨.inl rfl, by unfold older; simp, by simp⟩
  | cons y ys ih =>
    intro b
    rw [List.foldl_cons]
    obtain ⟨h1, h2, h3⟩ := ih (old2 b y)
    obtain ⟨g1, g2, g3⟩ := old2_le b y
    have tr : ∀ x r s : Cl, ¬ older x r → ¬ older r s → ¬ older x s := by unfold older; omega
    refine ⟨?_, tr _ _ _ g2 h2, fun x hx => ?_⟩
    · rcases h1 with h1 | h1
      · rw [h1]
        rcases g1 with g1 | g1
        · exact .inl g1
        · rw [g1]; exact .inr (by simp)
      · exact .inr (by simp [h1])
    · rcases List.mem_cons.1 hx with rfl | hx
      · exact tr _ _ _ g3 h2
      · exact h3 x hx
theorem old_is (l : List Cl) (h : 0 < l.length) : old l h ∈ l ∧ ∀ x ∈ l, ¬ older x (old l h) := by
  obtain ⟨h1, h2, h3⟩ := fold_old (l.drop 1) l[0]
  have hl : l = l[0] :: l.drop 1 := by
    have := List.drop_eq_getElem_cons (l := l) (i := 0) h
    simpa using this
  refine ⟨?_, fun x hx => ?_⟩
  · unfold old
    rcases h1 with h1 | h1
    · rw [h1]; exact List.getElem_mem h
    · exact List.mem_of_mem_drop h1
  · unfold old
    rw [hl] at hx
    rcases List.mem_cons.1 hx with e | hx
    · rw [e]; exact h2
    · exact h3 x hx
end Go.Proofs.Ytkhdpmbjjcmooaa.F
