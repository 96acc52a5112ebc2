/- The sort of turns, in plain words: what the printed functions of the library's stable sort answer is the same turns in order. No condition but sizes. -/
import Derived.Test.YtcfpbmdndapeaaaF13
import Derived.Test.YtcfpbmdndapeaaaF12
import Derived.Test.YtcfpbmdndapeaaaF10
import Derived.Test.YtcfpbmdndapeaaaF11
set_option linter.unusedVariables false
set_option linter.unusedSimpArgs false
namespace Go.Proofs.Ytcfpbmdndapeaaa.F
open Go.RowKit Go.Proofs.YtcfpbmdndapeaaaV.PrintWords Go.Proofs.YtcfpbmdndapeaaaV.PrintLast
namespace Ds
theorem wr1 {i : Int} (h : 0 ≤ i) (h' : i < 9223372036854775807) : wrap64 (i + 1) = i + 1 := by unfold wrap64; omega
theorem wrs {x : Int} (h : -9223372036854775808 ≤ x) (h' : x ≤ 9223372036854775807) : wrap64 x = x := by unfold wrap64; omega
theorem ev_pos {α : Type} {c : Prop} [Decidable c] {A B : Nat → Option α} {r : α} (h : c) (e : Ev A r) : Ev (fun k => if c then A k else B k) r := by
  simp only [if_pos h]; exact e
theorem ev_neg {α : Type} {c : Prop} [Decidable c] {A B : Nat → Option α} {r : α} (h : ¬ c) (e : Ev B r) : Ev (fun k => if c then A k else B k) r := by
  simp only [if_neg h]; exact e
abbrev Tn := S65
/-! ### which turn is ahead -/
def ltT (x y : Tn) : Prop := x.f0 < y.f0 ∨ x.f0 = y.f0 ∧ (x.f1.f0 < y.f1.f0 ∨ x.f1.f0 = y.f1.f0 ∧ (x.f1.f1 < y.f1.f1 ∨ x.f1.f1 = y.f1.f1 ∧ x.f2 < y.f2))
def leT (x y : Tn) : Prop := ¬ ltT y x
theorem le_refl (x : Tn) : leT x x := by unfold leT ltT; omega
theorem le_of_lt {x y : Tn} (h : ltT x y) : leT x y := by unfold leT; unfold ltT at *; omega
theorem le_trans {x y z : Tn} (h : leT x y) (h' : leT y z) : leT x z := by unfold leT at *; unfold ltT at *; omega
theorem lt_of_le_lt {x y z : Tn} (h : leT x y) (h' : ltT y z) : ltT x z := by unfold leT at *; unfold ltT at *; omega
theorem lt_of_lt_le {x y z : Tn} (h : ltT x y) (h' : leT y z) : ltT x z := by unfold leT at *; unfold ltT at *; omega
theorem tn_ext {x y : Tn} (h0 : x.f0 = y.f0) (h1 : x.f1.f0 = y.f1.f0) (h2 : x.f1.f1 = y.f1.f1) (h3 : x.f2 = y.f2) : x = y := by
  rcases x with ⟨a, ⟨b, c⟩, d⟩; rcases y with ⟨a', ⟨b', c'⟩, d'⟩; simp_all
theorem le_antisymm {x y : Tn} (h : leT x y) (h' : leT y x) : x = y := by
  unfold leT at *; unfold ltT at *
  exact tn_ext (by omega) (by omega) (by omega) (by omega)
def cmpI (a b : Int) : Int := if a < b then -1 else if a > b then 1 else 0
theorem compare_is (a b : Int) : cmp_Compare_int.f a b = some (cmpI a b) := by
  unfold cmp_Compare_int.f cmp_isNaN_int.f cmpI
  simp only [bne_self_eq_false, Option.bind_some, Bool.false_eq_true, if_false]
  split
  · rfl
  · split <;> rfl
def byI (a b c d : Int) : Int := if a < c ∨ a = c ∧ b < d then -1 else if c < a ∨ c = a ∧ d < b then 1 else 0
theorem less_is (a b c d : Int) : spot_Less.f a b c d = some (decide (a < c ∨ a = c ∧ b < d)) := by
  unfold spot_Less.f
  by_cases h1 : a < c
  · rw [if_pos h1, decide_eq_true (.inl h1)]
  · rw [if_neg h1]
    by_cases h2 : a = c
    · rw [if_pos h2]; congr 1; rw [decide_eq_decide]; omega
    · rw [if_neg h2, decide_eq_false (by omega)]
theorem by_is (a b c d : Int) : due_by.f a b c d = some (byI a b c d) := by
  unfold due_by.f byI
  rw [less_is, less_is]
  simp only [Option.bind_some, decide_eq_true_eq]
  split
  · rfl
  · split <;> rfl
theorem or_ev (a b c : Int) : Ev (fun k => cmp_Or_int.f k [a, b, c]) (if a ≠ 0 then a else if b ≠ 0 then b else c) := by
  unfold cmp_Or_int.f
  have w1 : wrap64 (0 + 1) = 1 := wr1 (by omega) (by omega)
  have w2 : wrap64 (1 + 1) = 2 := wr1 (by omega) (by omega)
  have w3 : wrap64 (2 + 1) = 3 := wr1 (by omega) (by omega)
  have r0 : rd [a, b, c] 0 = a := rfl
  have r1 : rd [a, b, c] 1 = b := rfl
  have r2 : rd [a, b, c] 2 = c := rfl
  refine Ev.step (fun k => by rw [cmp_Or_int.l0]) ?_
  refine ev_pos (by simp) (ev_pos (by omega) (ev_pos (by simp) ?_))
  rw [r0, w1]
  by_cases h : a = 0
  · rw [if_neg (fun e => e h)]
    refine ev_pos h (Ev.step (fun k => by rw [cmp_Or_int.l0]) ?_)
    refine ev_pos (by simp) (ev_pos (by omega) (ev_pos (by simp) ?_))
    rw [r1, w2]
    by_cases h2 : b = 0
    · rw [if_neg (fun e => e h2)]
      refine ev_pos h2 (Ev.step (fun k => by rw [cmp_Or_int.l0]) ?_)
      refine ev_pos (by simp) (ev_pos (by omega) (ev_pos (by simp) ?_))
      rw [r2, w3]
      by_cases h3 : c = 0
      · subst h3
        refine ev_pos rfl (Ev.step (fun k => by rw [cmp_Or_int.l0]) ?_)
        exact ev_neg (by simp) (Ev.now _)
      · exact ev_neg h3 (Ev.now _)
    · rw [if_pos h2]; exact ev_neg h2 (Ev.now _)
  · rw [if_pos h]; exact ev_neg h (Ev.now _)
theorem cmp_ev (x y : Tn) : ∃ c, Ev (fun k => due_Order_1.f k x.f0 x.f1.f0 x.f1.f1 x.f2 y.f0 y.f1.f0 y.f1.f1 y.f2) c ∧ (c < 0 ↔ ltT x y) := by
  unfold due_Order_1.f
  rw [compare_is, by_is, compare_is]
  simp only [Option.bind_some]
  refine ⟨_, Ev.bind (or_ev _ _ _) (Ev.now _), ?_⟩
  unfold cmpI byI ltT
  split <;> split <;> (try split) <;> (try split) <;> (try split) <;> omega
/-! ### two elements change places -/
theorem rdT (l : List Tn) (j : Nat) (h : j < l.length) : rd_T65 l (j : Int) = l[j] := by
  simp [rd_T65, List.getD_eq_getElem?_getD, List.getElem?_eq_getElem h]
theorem rd_at (A : List Tn) (x : Tn) (B : List Tn) : rd_T65 (A ++ x :: B) (A.length : Int) = x := by
  rw [rdT _ _ (by rw [List.length_append, List.length_cons]; omega)]; simp
theorem rd_at2 (P : List Tn) (x : Tn) (Q : List Tn) (y : Tn) (R : List Tn) : rd_T65 (P ++ x :: (Q ++ y :: R)) ((P.length + 1 + Q.length : Nat) : Int) = y := by
  have e : P ++ x :: (Q ++ y :: R) = (P ++ x :: Q) ++ y :: R := by simp
  have e2 : P.length + 1 + Q.length = (P ++ x :: Q).length := by simp; omega
  rw [e, e2]; exact rd_at _ _ _
theorem set_at (A : List Tn) (x y : Tn) (B : List Tn) : (A ++ x :: B).set A.length y = A ++ y :: B := by simp [List.set_append_right]
theorem set_at2 (P : List Tn) (x : Tn) (Q : List Tn) (y z : Tn) (R : List Tn) : (P ++ x :: (Q ++ y :: R)).set (P.length + 1 + Q.length) z = P ++ x :: (Q ++ z :: R) := by
  have e : P ++ x :: (Q ++ y :: R) = (P ++ x :: Q) ++ y :: R := by simp
  have e2 : P.length + 1 + Q.length = (P ++ x :: Q).length := by simp; omega
  rw [e, e2, set_at]; simp
theorem swp (P : List Tn) (x : Tn) (Q : List Tn) (y : Tn) (R : List Tn) : ((P ++ x :: (Q ++ y :: R)).set P.length y).set (P.length + 1 + Q.length) x = P ++ y :: (Q ++ x :: R) := by
  rw [set_at, set_at2]
theorem swp' (P : List Tn) (x : Tn) (Q : List Tn) (y : Tn) (R : List Tn) : ((P ++ x :: (Q ++ y :: R)).set (P.length + 1 + Q.length) x).set P.length y = P ++ y :: (Q ++ x :: R) := by
  rw [set_at2, set_at]
/-! ### ranges change places -/
theorem range_l0 (A M B : List Tn) (c : Int) (n : Nat) (r : List Tn) : ∀ (X2 Y2 X1 Y1 : List Tn), X1.length = Y1.length → X2.length = Y2.length → X1.length + X2.length = n → A.length + n + M.length + n + B.length < 1000000 →
    A ++ (Y1 ++ Y2) ++ M ++ (X1 ++ X2) ++ B = r →
    Ev (fun k => api_Turn_109.l0 k (A ++ Y1 ++ X2 ++ M ++ X1 ++ Y2 ++ B) (A.length : Int) ((A.length + n + M.length : Nat) : Int) (n : Int) (X1.length : Int)) r
  | [], Y2, X1, Y1, h1, h2, h3, h4, he => by
    obtain rfl : Y2 = [] := List.length_eq_zero_iff.1 h2.symm
    refine Ev.step (fun k => by rw [api_Turn_109.l0]) ?_
    refine ev_neg (by rw [← h3, List.length_nil]; omega) ?_
    rw [← he]; simp only [List.append_nil]; exact Ev.now _
  | x :: X2, [], X1, Y1, h1, h2, h3, h4, he => by cases h2
  | x :: X2, y :: Y2, X1, Y1, h1, h2, h3, h4, he => by
    rw [List.length_cons, List.length_cons] at h2
    rw [List.length_cons] at h3
    have ih := range_l0 A M B c n r X2 Y2 (X1 ++ [x]) (Y1 ++ [y]) (by simp; omega) (by omega) (by simp; omega) h4 (by rw [← he]; simp)
    refine Ev.step (fun k => by rw [api_Turn_109.l0]) ?_
    have el : A ++ Y1 ++ x :: X2 ++ M ++ X1 ++ y :: Y2 ++ B = (A ++ Y1) ++ x :: ((X2 ++ M ++ X1) ++ y :: (Y2 ++ B)) := by simp
    have ei : wrap64 ((A.length : Int) + (X1.length : Int)) = ((A ++ Y1).length : Int) := by rw [wrs (by omega) (by omega), List.length_append]; omega
    have ej : wrap64 (((A.length + n + M.length : Nat) : Int) + (X1.length : Int)) = (((A ++ Y1).length + 1 + (X2 ++ M ++ X1).length : Nat) : Int) := by
      rw [wrs (by omega) (by omega)]; simp only [List.length_append]; omega
    have en : wrap64 ((X1.length : Int) + 1) = ((X1 ++ [x]).length : Int) := by rw [wr1 (by omega) (by omega)]; simp
    rw [el, ei, ej, en, rd_at, rd_at2, Int.toNat_natCast, Int.toNat_natCast]
    refine ev_pos (by omega) (ev_pos (Int.natCast_nonneg _) (ev_pos (by simp only [List.length_append, List.length_cons]; omega) (ev_pos (Int.natCast_nonneg _) (ev_pos (by simp only [List.length_append, List.length_cons]; omega) ?_))))
    have es := swp (A ++ Y1) x (X2 ++ M ++ X1) y (Y2 ++ B)
    have e3 : (A ++ Y1) ++ y :: ((X2 ++ M ++ X1) ++ x :: (Y2 ++ B)) = A ++ (Y1 ++ [y]) ++ X2 ++ M ++ (X1 ++ [x]) ++ Y2 ++ B := by simp
    rw [e3] at es
    rw [← es] at ih
    exact ih
theorem range_ev (A X M Y B : List Tn) (c : Int) (h : X.length = Y.length) (hl : A.length + X.length + M.length + X.length + B.length < 1000000) :
    Ev (fun k => api_Turn_109.f k (A ++ X ++ M ++ Y ++ B) (A.length : Int) ((A.length + X.length + M.length : Nat) : Int) (X.length : Int) c) (A ++ Y ++ M ++ X ++ B) := by
  unfold api_Turn_109.f
  have := range_l0 A M B c X.length (A ++ Y ++ M ++ X ++ B) X Y [] [] rfl h (by simp) hl (by simp)
  simpa using this
/-! ### two neighbours change places -/
theorem rot_l0 (c : Int) : ∀ (s : Nat) (A X Y B : List Tn), X.length + Y.length ≤ s → 0 < X.length → 0 < Y.length → A.length + X.length + Y.length + B.length < 1000000 →
    Ev (fun k => api_Turn_108.l0 k (A ++ X ++ Y ++ B) ((A.length + X.length : Nat) : Int) c (X.length : Int) (Y.length : Int)) (A ++ Y ++ X ++ B) := by
  intro s
  induction s with
  | zero => intro A X Y B h hx; omega
  | succ s ih =>
    intro A X Y B h hx hy hl
    refine Ev.step (fun k => by rw [api_Turn_108.l0]) ?_
    have e1 : wrap64 (((A.length + X.length : Nat) : Int) - (X.length : Int)) = (A.length : Int) := by rw [wrs (by omega) (by omega)]; omega
    rw [e1]
    by_cases c1 : X.length = Y.length
    · refine ev_pos (by omega) ?_
      have := range_ev A X [] Y B c c1 (by simp; omega)
      simp only [List.append_nil, List.length_nil, Nat.add_zero] at this
      exact Ev.bind this (Ev.now _)
    · refine ev_neg (by omega) ?_
      by_cases c2 : X.length > Y.length
      · refine ev_pos (by omega) ?_
        -- the first part of X changes places with Y
        have hX : X = X.take Y.length ++ X.drop Y.length := (List.take_append_drop _ _).symm
        have l1 : (X.take Y.length).length = Y.length := by rw [List.length_take]; omega
        have l2 : (X.drop Y.length).length = X.length - Y.length := List.length_drop
        have sw := range_ev A (X.take Y.length) (X.drop Y.length) Y B c l1 (by rw [l1, l2]; omega)
        rw [l1, l2, show A.length + Y.length + (X.length - Y.length) = A.length + X.length by omega] at sw
        have el : A ++ X.take Y.length ++ X.drop Y.length ++ Y ++ B = A ++ X ++ Y ++ B := by rw [List.append_assoc A, ← hX]
        rw [el] at sw
        refine Ev.bind sw ?_
        have h2 := ih (A ++ Y) (X.drop Y.length) (X.take Y.length) B (by omega) (by omega) (by omega) (by simp only [List.length_append]; omega)
        rw [l1, l2, List.length_append, show A.length + Y.length + (X.length - Y.length) = A.length + X.length by omega] at h2
        have e2 : wrap64 ((X.length : Int) - (Y.length : Int)) = ((X.length - Y.length : Nat) : Int) := by rw [wrs (by omega) (by omega)]; omega
        rw [e2]
        have el2 : A ++ Y ++ X.take Y.length ++ X.drop Y.length ++ B = A ++ Y ++ X ++ B := by rw [List.append_assoc (A ++ Y), ← hX]
        rw [el2] at h2
        exact h2
      · refine ev_neg (by omega) ?_
        have hY : Y = Y.take (Y.length - X.length) ++ Y.drop (Y.length - X.length) := (List.take_append_drop _ _).symm
        have l1 : (Y.take (Y.length - X.length)).length = Y.length - X.length := by rw [List.length_take]; omega
        have l2 : (Y.drop (Y.length - X.length)).length = X.length := by rw [List.length_drop]; omega
        have sw := range_ev A X (Y.take (Y.length - X.length)) (Y.drop (Y.length - X.length)) B c l2.symm (by rw [l1]; omega)
        have el : A ++ X ++ Y.take (Y.length - X.length) ++ Y.drop (Y.length - X.length) ++ B = A ++ X ++ Y ++ B := by rw [List.append_assoc (A ++ X), ← hY]
        have e2 : wrap64 (wrap64 (((A.length + X.length : Nat) : Int) + (Y.length : Int)) - (X.length : Int)) = ((A.length + X.length + (Y.length - X.length) : Nat) : Int) := by
          rw [wrs (x := ((A.length + X.length : Nat) : Int) + (Y.length : Int)) (by omega) (by omega), wrs (by omega) (by omega)]; omega
        rw [l1, el] at sw
        rw [e2]
        refine Ev.bind sw ?_
        have h2 := ih A (Y.drop (Y.length - X.length)) (Y.take (Y.length - X.length)) (X ++ B) (by omega) (by omega) (by omega) (by simp only [List.length_append]; omega)
        rw [l1, l2] at h2
        have e3 : wrap64 ((Y.length : Int) - (X.length : Int)) = ((Y.length - X.length : Nat) : Int) := by rw [wrs (by omega) (by omega)]; omega
        rw [e3]
        have el2 : A ++ Y.take (Y.length - X.length) ++ Y.drop (Y.length - X.length) ++ (X ++ B) = A ++ Y ++ X ++ B := by rw [List.append_assoc A, ← hY, List.append_assoc, List.append_assoc, List.append_assoc]
        have el3 : A ++ Y.drop (Y.length - X.length) ++ Y.take (Y.length - X.length) ++ (X ++ B) = A ++ Y.drop (Y.length - X.length) ++ Y.take (Y.length - X.length) ++ X ++ B := by simp
        rw [el2, el3] at h2
        exact h2
theorem rot_ev (A X Y B : List Tn) (c : Int) (hx : 0 < X.length) (hy : 0 < Y.length) (hl : A.length + X.length + Y.length + B.length < 1000000) :
    Ev (fun k => api_Turn_108.f k (A ++ X ++ Y ++ B) (A.length : Int) ((A.length + X.length : Nat) : Int) ((A.length + X.length + Y.length : Nat) : Int) c) (A ++ Y ++ X ++ B) := by
  unfold api_Turn_108.f
  have e1 : wrap64 (((A.length + X.length : Nat) : Int) - (A.length : Int)) = (X.length : Int) := by rw [wrs (by omega) (by omega)]; omega
  have e2 : wrap64 (((A.length + X.length + Y.length : Nat) : Int) - ((A.length + X.length : Nat) : Int)) = (Y.length : Int) := by rw [wrs (by omega) (by omega)]; omega
  rw [e1, e2]
  exact rot_l0 c _ A X Y B (Nat.le_refl _) hx hy hl
/-! ### one by one -/
abbrev Srt (l : List Tn) : Prop := l.Pairwise leT
/-- x goes down to its place: P ++ Q are in order, x is ahead of all of Q. -/
theorem ins_l1 (A C : List Tn) (n c : Int) (i : Nat) (res : List Tn) (x : Tn) (hl : A.length + i + C.length < 1000000) : ∀ (s : Nat) (P Q : List Tn), P.length = s → P.length + Q.length = i → Srt (P ++ Q) → (∀ y ∈ Q, ltT x y) →
    ∃ R, Srt R ∧ R.Perm (x :: (P ++ Q)) ∧ (Ev (fun k => api_Turn_106.l0 k (A ++ R ++ C) (A.length : Int) n (wrap64 (((A.length + i : Nat) : Int) + 1))) res →
      Ev (fun k => api_Turn_106.l1 k (A ++ P ++ x :: Q ++ C) (A.length : Int) n ((A.length + i : Nat) : Int) ((A.length + P.length : Nat) : Int)) res) := by
  intro s
  induction s with
  | zero =>
    intro P Q hs hi hq hx
    obtain rfl : P = [] := List.length_eq_zero_iff.1 hs
    refine ⟨x :: Q, List.pairwise_cons.2 ⟨fun y hy => le_of_lt (hx y hy), by simpa using hq⟩, by simp, fun h => ?_⟩
    refine Ev.step (fun k => by rw [api_Turn_106.l1]) ?_
    refine ev_neg (by simp) ?_
    simpa using h
  | succ s ih =>
    intro P Q hs hi hq hx
    have hP : P ≠ [] := by intro e; rw [e] at hs; cases hs
    obtain ⟨P', p, rfl⟩ : ∃ P' p, P = P' ++ [p] := ⟨P.dropLast, P.getLast hP, (List.dropLast_concat_getLast hP).symm⟩
    rw [List.length_append, List.length_singleton] at hs hi
    obtain ⟨cc, h1, h2⟩ := cmp_ev x p
    have el : A ++ (P' ++ [p]) ++ x :: Q ++ C = (A ++ P') ++ p :: ([] ++ x :: (Q ++ C)) := by simp
    have e0 : ((A.length + (P' ++ [p]).length : Nat) : Int) = (((A ++ P').length + 1 + ([] : List Tn).length : Nat) : Int) := by simp; omega
    have e1 : wrap64 ((((A ++ P').length + 1 + ([] : List Tn).length : Nat) : Int) - 1) = ((A ++ P').length : Int) := by
      rw [wrs (by simp only [List.length_append, List.length_nil]; omega) (by simp only [List.length_append, List.length_nil]; omega)]; simp only [List.length_nil]; omega
    by_cases c1 : ltT x p
    · obtain ⟨R, r1, r2, r3⟩ := ih P' (p :: Q) (by omega) (by rw [List.length_cons]; omega) (by simpa using hq) (fun y hy => by
        rcases List.mem_cons.1 hy with rfl | hy
        · exact c1
        · exact hx y hy)
      refine ⟨R, r1, r2.trans (by simp), fun h => ?_⟩
      have h3 := r3 h
      refine Ev.step (fun k => by rw [api_Turn_106.l1]) ?_
      rw [el, e0, e1, rd_at2, rd_at, Int.toNat_natCast, Int.toNat_natCast]
      refine ev_pos (by simp only [List.length_append, List.length_nil]; omega) (ev_pos (Int.natCast_nonneg _) (ev_pos (by simp only [List.length_append, List.length_nil, List.length_cons]; omega) (ev_pos (Int.natCast_nonneg _) (ev_pos (by simp only [List.length_append, List.length_cons]; omega) ?_))))
      refine Ev.bind h1 (ev_pos (h2.2 c1) ?_)
      have es := swp' (A ++ P') p [] x (Q ++ C)
      have e3 : (A ++ P') ++ x :: ([] ++ p :: (Q ++ C)) = A ++ P' ++ x :: (p :: Q) ++ C := by simp
      rw [e3] at es
      rw [← es, ← List.length_append] at h3
      exact h3
    · refine ⟨(P' ++ [p]) ++ x :: Q, ?_, ?_, fun h => ?_⟩
      · obtain ⟨q1, q2, q3⟩ := List.pairwise_append.1 hq
        refine List.pairwise_append.2 ⟨q1, List.pairwise_cons.2 ⟨fun y hy => le_of_lt (hx y hy), q2⟩, fun a ha b hb => ?_⟩
        rcases List.mem_cons.1 hb with rfl | hb
        · rcases List.mem_append.1 ha with ha | ha
          · have := (List.pairwise_append.1 q1).2.2 a ha p (List.mem_singleton.2 rfl)
            exact le_trans this c1
          · rw [List.mem_singleton] at ha; subst ha; exact c1
        · exact q3 a ha b hb
      · exact List.perm_middle
      · refine Ev.step (fun k => by rw [api_Turn_106.l1]) ?_
        have el2 : A ++ ((P' ++ [p]) ++ x :: Q) ++ C = A ++ (P' ++ [p]) ++ x :: Q ++ C := by simp
        rw [el2] at h
        rw [el] at h ⊢
        rw [e0, e1, rd_at2, rd_at]
        refine ev_pos (by simp only [List.length_append, List.length_nil]; omega) (ev_pos (Int.natCast_nonneg _) (ev_pos (by simp only [List.length_append, List.length_nil, List.length_cons]; omega) (ev_pos (Int.natCast_nonneg _) (ev_pos (by simp only [List.length_append, List.length_cons]; omega) ?_))))
        exact Ev.bind h1 (ev_neg (fun e => c1 (h2.1 e)) h)
theorem ins_l0 (A B : List Tn) (c : Int) (n : Nat) (hn : A.length + n + B.length < 1000000) : ∀ (d : Nat) (X Y : List Tn), Y.length = d → X.length + Y.length = n → 0 < X.length → Srt X →
    ∃ R, Srt R ∧ R.Perm (X ++ Y) ∧ Ev (fun k => api_Turn_106.l0 k (A ++ X ++ Y ++ B) (A.length : Int) ((A.length + n : Nat) : Int) ((A.length + X.length : Nat) : Int)) (A ++ R ++ B) := by
  intro d
  induction d with
  | zero =>
    intro X Y hY hXY h0 hs
    obtain rfl : Y = [] := List.length_eq_zero_iff.1 hY
    refine ⟨X, hs, by simp, ?_⟩
    refine Ev.step (fun k => by rw [api_Turn_106.l0]) ?_
    refine ev_neg (by simp at hXY; omega) ?_
    simp only [List.append_nil]; exact Ev.now _
  | succ d ih =>
    intro X Y hY hXY h0 hs
    obtain ⟨y, Y, rfl⟩ : ∃ y Y', Y = y :: Y' := by cases Y with | nil => cases hY | cons y Y' => exact ⟨y, Y', rfl⟩
    rw [List.length_cons] at hY hXY
    -- the last one goes down to its place
    have key := fun res => ins_l1 A (Y ++ B) ((A.length + n : Nat) : Int) c X.length res y (by simp only [List.length_append]; omega) X.length X [] rfl (by simp) (by simpa using hs) (fun z hz => by cases hz)
    obtain ⟨R, r1, r2, _⟩ := key []
    have hRl : R.length = X.length + 1 := by have := r2.length_eq; simpa using this
    have hRe : ∀ res, Ev (fun k => api_Turn_106.l0 k (A ++ R ++ (Y ++ B)) (A.length : Int) ((A.length + n : Nat) : Int) (wrap64 (((A.length + X.length : Nat) : Int) + 1))) res →
        Ev (fun k => api_Turn_106.l1 k (A ++ X ++ y :: [] ++ (Y ++ B)) (A.length : Int) ((A.length + n : Nat) : Int) ((A.length + X.length : Nat) : Int) ((A.length + X.length : Nat) : Int)) res := fun res h => by
      obtain ⟨R', p1, p2, p3⟩ := key res
      have : R' = R := by
        have hp : R'.Perm R := p2.trans r2.symm
        exact hp.eq_of_pairwise (fun a b _ _ h1 h2 => le_antisymm h1 h2) p1 r1
      rw [this] at p3; exact p3 h
    obtain ⟨R2, q1, q2, q3⟩ := ih R Y (by omega) (by omega) (by omega) r1
    refine ⟨R2, q1, q2.trans ?_, ?_⟩
    · have h1 : (R ++ Y).Perm ((y :: (X ++ [])) ++ Y) := r2.append_right Y
      rw [List.append_nil] at h1
      refine h1.trans ?_
      rw [List.cons_append]
      exact List.perm_middle.symm
    · refine Ev.step (fun k => by rw [api_Turn_106.l0]) ?_
      refine ev_pos (by omega) ?_
      have el : A ++ X ++ y :: Y ++ B = A ++ X ++ y :: [] ++ (Y ++ B) := by simp
      rw [el]
      refine hRe _ ?_
      rw [hRl, List.append_assoc (A ++ R)] at q3
      have e : wrap64 (((A.length + X.length : Nat) : Int) + 1) = ((A.length + (X.length + 1) : Nat) : Int) := by rw [wr1 (by omega) (by omega)]; omega
      rw [e]; exact q3
theorem ins_ev (A X B : List Tn) (c : Int) (hn : A.length + X.length + B.length < 1000000) :
    ∃ R, Srt R ∧ R.Perm X ∧ Ev (fun k => api_Turn_106.f k (A ++ X ++ B) (A.length : Int) ((A.length + X.length : Nat) : Int) c) (A ++ R ++ B) := by
  unfold api_Turn_106.f
  have e : wrap64 ((A.length : Int) + 1) = ((A.length + 1 : Nat) : Int) := by rw [wr1 (by omega) (by omega)]; omega
  rw [e]
  cases X with
  | nil =>
    refine ⟨[], List.Pairwise.nil, List.Perm.refl _, ?_⟩
    refine Ev.step (fun k => by rw [api_Turn_106.l0]) ?_
    exact ev_neg (by simp; omega) (Ev.now _)
  | cons x X =>
    obtain ⟨R, r1, r2, r3⟩ := ins_l0 A B c (x :: X).length hn X.length [x] X rfl (by simp; omega) (by simp) (by simp)
    refine ⟨R, r1, r2, ?_⟩
    have el : A ++ [x] ++ X ++ B = A ++ (x :: X) ++ B := by simp
    rw [el] at r3; exact r3
/-! ### two rows in order become one -/
theorem half (x y : Nat) (h : x + y < 2000000) : wrap64 ((IntKind.u64.wrap (wrap64 ((x : Int) + (y : Int)))) / 2) = (((x + y) / 2 : Nat) : Int) := by
  have e1 : wrap64 ((x : Int) + (y : Int)) = (x : Int) + (y : Int) := wrs (by omega) (by omega)
  have e2 : IntKind.u64.wrap ((x : Int) + (y : Int)) = (x : Int) + (y : Int) := by
    simp [IntKind.wrap, IntKind.bits, IntKind.signed]; omega
  rw [e1, e2, wrs (by omega) (by omega)]; omega
theorem at_lt {l : List Tn} {i j : Nat} (hs : Srt l) (hi : i < l.length) (hj : j < l.length) (hij : i ≤ j) : leT l[i] l[j] := by
  rcases Nat.lt_or_ge i j with h | h
  · exact List.pairwise_iff_getElem.1 hs i j hi hj h
  · have : i = j := by omega
    subst this; exact le_refl _
/-- One ahead of a row: how many of the row are ahead of it. -/
theorem one_l0 (A R B : List Tn) (x : Tn) (hs : Srt R) (hl : A.length + 1 + R.length + B.length < 1000000) : ∀ (d i j : Nat), j - i ≤ d → i ≤ j → j ≤ R.length → (∀ h (hh : h < R.length), h < i → ltT R[h] x) → (∀ h (hh : h < R.length), j ≤ h → ¬ ltT R[h] x) →
    ∃ s, s ≤ R.length ∧ (∀ h (hh : h < R.length), h < s → ltT R[h] x) ∧ (∀ h (hh : h < R.length), s ≤ h → ¬ ltT R[h] x) ∧
      ∀ res, Ev (fun k => api_Turn_107.l1 k (A ++ x :: R ++ B) ((A.length + 1 + s : Nat) : Int) (A.length : Int)) res →
        Ev (fun k => api_Turn_107.l0 k (A ++ x :: R ++ B) (A.length : Int) ((A.length + 1 + i : Nat) : Int) ((A.length + 1 + j : Nat) : Int)) res := by
  intro d
  induction d with
  | zero =>
    intro i j hd hij hj h1 h2
    obtain rfl : i = j := by omega
    refine ⟨i, hj, h1, h2, fun res h => ?_⟩
    refine Ev.step (fun k => by rw [api_Turn_107.l0]) ?_
    exact ev_neg (by omega) h
  | succ d ih =>
    intro i j hd hij hj h1 h2
    by_cases hlt : i < j
    · have hm : (i + j) / 2 < R.length := by omega
      obtain ⟨cc, g1, g2⟩ := cmp_ev R[(i + j) / 2] x
      have eh := half (A.length + 1 + i) (A.length + 1 + j) (by omega)
      have eh2 : (A.length + 1 + i + (A.length + 1 + j)) / 2 = A.length + 1 + (i + j) / 2 := by omega
      rw [eh2] at eh
      have er : rd_T65 (A ++ x :: R ++ B) ((A.length + 1 + (i + j) / 2 : Nat) : Int) = R[(i + j) / 2] := by
        rw [rdT _ _ (by simp only [List.length_append, List.length_cons]; omega)]
        have e : (A ++ x :: R ++ B) = (A ++ [x]) ++ (R ++ B) := by simp
        simp only [e]
        rw [List.getElem_append_right (by simp), List.getElem_append_left (by simp; omega)]
        congr 1; simp
      have ea : rd_T65 (A ++ x :: R ++ B) (A.length : Int) = x := by
        have e : (A ++ x :: R ++ B) = A ++ x :: (R ++ B) := by simp
        rw [e]; exact rd_at _ _ _
      have step : ∀ res, Ev (fun k => if cc < 0 then (api_Turn_107.l0 k (A ++ x :: R ++ B) (A.length : Int) (wrap64 (((A.length + 1 + (i + j) / 2 : Nat) : Int) + 1)) ((A.length + 1 + j : Nat) : Int)) else (api_Turn_107.l0 k (A ++ x :: R ++ B) (A.length : Int) ((A.length + 1 + i : Nat) : Int) ((A.length + 1 + (i + j) / 2 : Nat) : Int))) res →
          Ev (fun k => api_Turn_107.l0 k (A ++ x :: R ++ B) (A.length : Int) ((A.length + 1 + i : Nat) : Int) ((A.length + 1 + j : Nat) : Int)) res := fun res h => by
        refine Ev.step (fun k => by rw [api_Turn_107.l0]) ?_
        rw [eh, er, ea]
        refine ev_pos (by omega) (ev_pos (Int.natCast_nonneg _) (ev_pos (by simp only [List.length_append, List.length_cons]; omega) (ev_pos (Int.natCast_nonneg _) (ev_pos (by simp only [List.length_append, List.length_cons]; omega) ?_))))
        exact Ev.bind g1 h
      by_cases c1 : ltT R[(i + j) / 2] x
      · obtain ⟨s, s1, s2, s3, s4⟩ := ih ((i + j) / 2 + 1) j (by omega) (by omega) hj (fun h hh hlt2 => lt_of_le_lt (at_lt hs hh hm (by omega)) c1) h2
        refine ⟨s, s1, s2, s3, fun res h => step res (ev_pos (g2.2 c1) ?_)⟩
        have e : wrap64 (((A.length + 1 + (i + j) / 2 : Nat) : Int) + 1) = ((A.length + 1 + ((i + j) / 2 + 1) : Nat) : Int) := by rw [wr1 (by omega) (by omega)]; omega
        rw [e]; exact s4 res h
      · obtain ⟨s, s1, s2, s3, s4⟩ := ih i ((i + j) / 2) (by omega) (by omega) (by omega) h1 (fun h hh hle e => c1 (lt_of_le_lt (at_lt hs hm hh hle) e))
        exact ⟨s, s1, s2, s3, fun res h => step res (ev_neg (fun e => c1 (g2.1 e)) (s4 res h))⟩
    · obtain rfl : i = j := by omega
      refine ⟨i, hj, h1, h2, fun res h => ?_⟩
      refine Ev.step (fun k => by rw [api_Turn_107.l0]) ?_
      exact ev_neg (by omega) h
/-- It goes up to its place. -/
theorem up_l1 (A B : List Tn) (x : Tn) (n : Nat) (hl : A.length + 1 + n + B.length < 1000000) : ∀ (R2 R1 : List Tn), R1.length + R2.length = n →
    Ev (fun k => api_Turn_107.l1 k (A ++ R1 ++ x :: R2 ++ B) ((A.length + 1 + n : Nat) : Int) ((A.length + R1.length : Nat) : Int)) (A ++ (R1 ++ R2) ++ x :: B)
  | [], R1, h => by
    refine Ev.step (fun k => by rw [api_Turn_107.l1]) ?_
    rw [List.length_nil] at h
    refine ev_neg (by rw [wrs (by omega) (by omega)]; omega) ?_
    have e : A ++ (R1 ++ []) ++ x :: B = A ++ R1 ++ x :: [] ++ B := by simp
    rw [e]; exact Ev.now _
  | y :: R2, R1, h => by
    rw [List.length_cons] at h
    have ih := up_l1 A B x n hl R2 (R1 ++ [y]) (by rw [List.length_append, List.length_singleton]; omega)
    refine Ev.step (fun k => by rw [api_Turn_107.l1]) ?_
    have el : A ++ R1 ++ x :: (y :: R2) ++ B = (A ++ R1) ++ x :: ([] ++ y :: (R2 ++ B)) := by simp
    have e0 : ((A.length + R1.length : Nat) : Int) = ((A ++ R1).length : Int) := by rw [List.length_append]
    have e1 : wrap64 (((A ++ R1).length : Int) + 1) = (((A ++ R1).length + 1 + ([] : List Tn).length : Nat) : Int) := by rw [wr1 (Int.natCast_nonneg _) (by rw [List.length_append]; omega), List.length_nil]; omega
    rw [el, e0, e1, rd_at2, rd_at, Int.toNat_natCast, Int.toNat_natCast]
    refine ev_pos (by rw [wrs (by omega) (by omega), List.length_append]; omega) (ev_pos (Int.natCast_nonneg _) (ev_pos (by simp only [List.length_append, List.length_nil, List.length_cons]; omega) (ev_pos (Int.natCast_nonneg _) (ev_pos (by simp only [List.length_append, List.length_cons]; omega) ?_))))
    have es := swp (A ++ R1) x [] y (R2 ++ B)
    have e3 : (A ++ R1) ++ y :: ([] ++ x :: (R2 ++ B)) = A ++ (R1 ++ [y]) ++ x :: R2 ++ B := by simp
    have e4 : A ++ (R1 ++ [y] ++ R2) ++ x :: B = A ++ (R1 ++ y :: R2) ++ x :: B := by simp
    have e5 : ((A.length + (R1 ++ [y]).length : Nat) : Int) = (((A ++ R1).length + 1 + ([] : List Tn).length : Nat) : Int) := by simp; omega
    rw [e3] at es
    rw [← es, e4, e5] at ih
    exact ih
/-- One behind a row: how many of the row are not behind it. -/
theorem last_l2 (A L B : List Tn) (y : Tn) (hs : Srt L) (hl : A.length + 1 + L.length + B.length < 1000000) : ∀ (d i j : Nat), j - i ≤ d → i ≤ j → j ≤ L.length → (∀ h (hh : h < L.length), h < i → ¬ ltT y L[h]) → (∀ h (hh : h < L.length), j ≤ h → ltT y L[h]) →
    ∃ s, s ≤ L.length ∧ (∀ h (hh : h < L.length), h < s → ¬ ltT y L[h]) ∧ (∀ h (hh : h < L.length), s ≤ h → ltT y L[h]) ∧
      ∀ res, Ev (fun k => api_Turn_107.l3 k (A ++ L ++ y :: B) ((A.length + s : Nat) : Int) ((A.length + L.length : Nat) : Int)) res →
        Ev (fun k => api_Turn_107.l2 k (A ++ L ++ y :: B) ((A.length + L.length : Nat) : Int) ((A.length + i : Nat) : Int) ((A.length + j : Nat) : Int)) res := by
  intro d
  induction d with
  | zero =>
    intro i j hd hij hj h1 h2
    obtain rfl : i = j := by omega
    refine ⟨i, hj, h1, h2, fun res h => ?_⟩
    refine Ev.step (fun k => by rw [api_Turn_107.l2]) ?_
    exact ev_neg (by omega) h
  | succ d ih =>
    intro i j hd hij hj h1 h2
    by_cases hlt : i < j
    · have hm : (i + j) / 2 < L.length := by omega
      obtain ⟨cc, g1, g2⟩ := cmp_ev y L[(i + j) / 2]
      have eh := half (A.length + i) (A.length + j) (by omega)
      have eh2 : (A.length + i + (A.length + j)) / 2 = A.length + (i + j) / 2 := by omega
      rw [eh2] at eh
      have er : rd_T65 (A ++ L ++ y :: B) ((A.length + (i + j) / 2 : Nat) : Int) = L[(i + j) / 2] := by
        rw [rdT _ _ (by simp only [List.length_append, List.length_cons]; omega)]
        rw [List.getElem_append_left (by simp; omega), List.getElem_append_right (by omega)]
        congr 1; omega
      have ea : rd_T65 (A ++ L ++ y :: B) ((A.length + L.length : Nat) : Int) = y := by
        have e2 : A.length + L.length = (A ++ L).length := by simp
        rw [e2]; exact rd_at _ _ _
      have step : ∀ res, Ev (fun k => if cc < 0 then (api_Turn_107.l2 k (A ++ L ++ y :: B) ((A.length + L.length : Nat) : Int) ((A.length + i : Nat) : Int) ((A.length + (i + j) / 2 : Nat) : Int)) else (api_Turn_107.l2 k (A ++ L ++ y :: B) ((A.length + L.length : Nat) : Int) (wrap64 (((A.length + (i + j) / 2 : Nat) : Int) + 1)) ((A.length + j : Nat) : Int))) res →
          Ev (fun k => api_Turn_107.l2 k (A ++ L ++ y :: B) ((A.length + L.length : Nat) : Int) ((A.length + i : Nat) : Int) ((A.length + j : Nat) : Int)) res := fun res h => by
        refine Ev.step (fun k => by rw [api_Turn_107.l2]) ?_
        rw [eh, er, ea]
        refine ev_pos (by omega) (ev_pos (Int.natCast_nonneg _) (ev_pos (by simp only [List.length_append, List.length_cons]; omega) (ev_pos (Int.natCast_nonneg _) (ev_pos (by simp only [List.length_append, List.length_cons]; omega) ?_))))
        exact Ev.bind g1 h
      by_cases c1 : ltT y L[(i + j) / 2]
      · obtain ⟨s, s1, s2, s3, s4⟩ := ih i ((i + j) / 2) (by omega) (by omega) (by omega) h1 (fun h hh hle => lt_of_lt_le c1 (at_lt hs hm hh hle))
        exact ⟨s, s1, s2, s3, fun res h => step res (ev_pos (g2.2 c1) (s4 res h))⟩
      · obtain ⟨s, s1, s2, s3, s4⟩ := ih ((i + j) / 2 + 1) j (by omega) (by omega) hj (fun h hh hlt2 e => c1 (lt_of_lt_le e (at_lt hs hh hm (by omega)))) h2
        refine ⟨s, s1, s2, s3, fun res h => step res (ev_neg (fun e => c1 (g2.1 e)) ?_)⟩
        have e : wrap64 (((A.length + (i + j) / 2 : Nat) : Int) + 1) = ((A.length + ((i + j) / 2 + 1) : Nat) : Int) := by rw [wr1 (by omega) (by omega)]; omega
        rw [e]; exact s4 res h
    · obtain rfl : i = j := by omega
      refine ⟨i, hj, h1, h2, fun res h => ?_⟩
      refine Ev.step (fun k => by rw [api_Turn_107.l2]) ?_
      exact ev_neg (by omega) h
/-- It goes down to its place. -/
theorem down_l3 (A B L1 : List Tn) (y : Tn) (n : Nat) (hl : A.length + L1.length + 1 + n + B.length < 1000000) : ∀ (d : Nat) (L2 L3 : List Tn), L2.length = d → L2.length + L3.length = n →
    Ev (fun k => api_Turn_107.l3 k (A ++ L1 ++ L2 ++ y :: L3 ++ B) ((A.length + L1.length : Nat) : Int) ((A.length + L1.length + L2.length : Nat) : Int)) (A ++ L1 ++ y :: (L2 ++ L3) ++ B) := by
  intro d
  induction d with
  | zero =>
    intro L2 L3 hd h
    obtain rfl : L2 = [] := List.length_eq_zero_iff.1 hd
    refine Ev.step (fun k => by rw [api_Turn_107.l3]) ?_
    refine ev_neg (by simp) ?_
    simp only [List.append_nil, List.nil_append]; exact Ev.now _
  | succ d ih =>
    intro L2 L3 hd h
    have hP : L2 ≠ [] := by intro e; rw [e] at hd; cases hd
    obtain ⟨P, p, rfl⟩ : ∃ P p, L2 = P ++ [p] := ⟨L2.dropLast, L2.getLast hP, (List.dropLast_concat_getLast hP).symm⟩
    rw [List.length_append, List.length_singleton] at hd h
    have h2 := ih P (p :: L3) (by omega) (by rw [List.length_cons]; omega)
    refine Ev.step (fun k => by rw [api_Turn_107.l3]) ?_
    have el : A ++ L1 ++ (P ++ [p]) ++ y :: L3 ++ B = (A ++ L1 ++ P) ++ p :: ([] ++ y :: (L3 ++ B)) := by simp
    have e0 : ((A.length + L1.length + (P ++ [p]).length : Nat) : Int) = (((A ++ L1 ++ P).length + 1 + ([] : List Tn).length : Nat) : Int) := by simp; omega
    have e1 : wrap64 ((((A ++ L1 ++ P).length + 1 + ([] : List Tn).length : Nat) : Int) - 1) = ((A ++ L1 ++ P).length : Int) := by
      rw [wrs (by simp only [List.length_append, List.length_nil]; omega) (by simp only [List.length_append, List.length_nil]; omega)]; simp only [List.length_nil]; omega
    rw [el, e0, e1, rd_at2, rd_at, Int.toNat_natCast, Int.toNat_natCast]
    refine ev_pos (by simp only [List.length_append, List.length_nil]; omega) (ev_pos (Int.natCast_nonneg _) (ev_pos (by simp only [List.length_append, List.length_nil, List.length_cons]; omega) (ev_pos (Int.natCast_nonneg _) (ev_pos (by simp only [List.length_append, List.length_cons, List.length_nil]; omega) ?_))))
    have es := swp' (A ++ L1 ++ P) p [] y (L3 ++ B)
    have e3 : (A ++ L1 ++ P) ++ y :: ([] ++ p :: (L3 ++ B)) = A ++ L1 ++ P ++ y :: (p :: L3) ++ B := by simp
    have e4 : A ++ L1 ++ y :: (P ++ p :: L3) ++ B = A ++ L1 ++ y :: (P ++ [p] ++ L3) ++ B := by simp
    have e5 : ((A.length + L1.length + P.length : Nat) : Int) = ((A ++ L1 ++ P).length : Int) := by simp only [List.length_append]
    rw [e3] at es
    rw [← es, e4, e5] at h2
    exact h2
end Ds
end Go.Proofs.Ytcfpbmdndapeaaa.F
