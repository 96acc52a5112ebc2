/- Two rows in order become one: the library's merge in place, in plain words. No condition but sizes. -/
import Derived.Test.YtcfpbmdndapeaaaDs
set_option linter.unusedVariables false
set_option linter.unusedSimpArgs false
namespace Go.Proofs.Ytcfpbmdndapeaaa.F
open Go.RowKit Go.Proofs.YtcfpbmdndapeaaaV.PrintWords Go.Proofs.YtcfpbmdndapeaaaV.PrintLast
namespace Ds
theorem w_sub (a b : Nat) (h : a + b < 4000000) : wrap64 (((a + b : Nat) : Int) - (a : Int)) = (b : Int) := by rw [wrs (by omega) (by omega)]; omega
theorem w_sub2 (n t : Nat) (h : t ≤ n) (h' : n < 4000000) : wrap64 ((n : Int) - (t : Int)) = ((n - t : Nat) : Int) := by rw [wrs (by omega) (by omega)]; omega
theorem w_add (a b : Nat) (h : a + b < 4000000) : wrap64 ((a : Int) + (b : Int)) = ((a + b : Nat) : Int) := by rw [wrs (by omega) (by omega)]; omega
theorem w_one (n : Nat) (h : 1 ≤ n) (h' : n < 4000000) : wrap64 ((n : Int) - 1) = ((n - 1 : Nat) : Int) := by rw [wrs (by omega) (by omega)]; omega
theorem w_suc (n : Nat) (h' : n < 4000000) : wrap64 ((n : Int) + 1) = ((n + 1 : Nat) : Int) := by rw [wrs (by omega) (by omega)]; omega
/-- Where to part: how many of the first half's places hold what is not behind its counterpart. -/
theorem part_l4 (l : List Tn) (a m b c mid n p : Nat) (st r0 : Nat) (hb : l.length < 1000000) (hp : p < 1000000)
    (hlo : ∀ i j (hi : i < l.length) (hj : j < l.length), st ≤ i → i ≤ j → j < r0 → leT l[i] l[j])
    (hin : ∀ i, st ≤ i → i < r0 → i ≤ p ∧ p - i < l.length ∧ i < l.length)
    (hhi : ∀ i j (hi : p - i < l.length) (hj : p - j < l.length), st ≤ i → i ≤ j → j < r0 → leT l[p - j] l[p - i]) :
    ∀ (d i j : Nat), j - i ≤ d → st ≤ i → i ≤ j → j ≤ r0 →
      (∀ h (h1 : p - h < l.length) (h2 : h < l.length), st ≤ h → h < i → ¬ ltT l[p - h] l[h]) → (∀ h (h1 : p - h < l.length) (h2 : h < l.length), j ≤ h → h < r0 → ltT l[p - h] l[h]) →
      ∃ s, st ≤ s ∧ s ≤ r0 ∧ (∀ h (h1 : p - h < l.length) (h2 : h < l.length), st ≤ h → h < s → ¬ ltT l[p - h] l[h]) ∧ (∀ h (h1 : p - h < l.length) (h2 : h < l.length), s ≤ h → h < r0 → ltT l[p - h] l[h]) ∧
        ∀ res, Ev (fun k => api_Turn_107.l4 k l (a : Int) (m : Int) (b : Int) (c : Int) (mid : Int) (n : Int) (s : Int) (s : Int) (p : Int)) res →
          Ev (fun k => api_Turn_107.l4 k l (a : Int) (m : Int) (b : Int) (c : Int) (mid : Int) (n : Int) (i : Int) (j : Int) (p : Int)) res := by
  intro d
  induction d with
  | zero =>
    intro i j hd hsi hij hj h1 h2
    obtain rfl : i = j := by omega
    exact ⟨i, hsi, hj, h1, h2, fun res h => h⟩
  | succ d ih =>
    intro i j hd hsi hij hj h1 h2
    by_cases hlt : i < j
    · obtain ⟨k1, k2, k3⟩ := hin ((i + j) / 2) (by omega) (by omega)
      obtain ⟨cc, g1, g2⟩ := cmp_ev l[p - (i + j) / 2] l[(i + j) / 2]
      have step : ∀ res, Ev (fun k => if cc < 0 then (api_Turn_107.l4 k l (a : Int) (m : Int) (b : Int) (c : Int) (mid : Int) (n : Int) (i : Int) (((i + j) / 2 : Nat) : Int) (p : Int)) else (api_Turn_107.l4 k l (a : Int) (m : Int) (b : Int) (c : Int) (mid : Int) (n : Int) (wrap64 ((((i + j) / 2 : Nat) : Int) + 1)) (j : Int) (p : Int))) res →
          Ev (fun k => api_Turn_107.l4 k l (a : Int) (m : Int) (b : Int) (c : Int) (mid : Int) (n : Int) (i : Int) (j : Int) (p : Int)) res := fun res h => by
        refine Ev.step (fun k => by rw [api_Turn_107.l4]) ?_
        rw [half i j (by omega), w_sub2 p ((i + j) / 2) (by omega) (by omega), rdT l _ k2, rdT l _ k3]
        refine ev_pos (by omega) (ev_pos (Int.natCast_nonneg _) (ev_pos (by omega) (ev_pos (Int.natCast_nonneg _) (ev_pos (by omega) ?_))))
        exact Ev.bind g1 h
      by_cases c1 : ltT l[p - (i + j) / 2] l[(i + j) / 2]
      · obtain ⟨s, s0, s1, s2, s3, s4⟩ := ih i ((i + j) / 2) (by omega) hsi (by omega) (by omega) h1 (fun h g1 g2 hle hr => lt_of_lt_le (lt_of_le_lt (hhi _ _ k2 g1 (by omega) hle hr) c1) (hlo _ _ k3 g2 (by omega) hle hr))
        exact ⟨s, s0, s1, s2, s3, fun res h => step res (ev_pos (g2.2 c1) (s4 res h))⟩
      · obtain ⟨s, s0, s1, s2, s3, s4⟩ := ih ((i + j) / 2 + 1) j (by omega) (by omega) (by omega) hj (fun h g1 g2 hle hr e => c1 (lt_of_lt_le (lt_of_le_lt (hhi h _ g1 k2 hle (by omega) (by omega)) e) (hlo h _ g2 k3 hle (by omega) (by omega)))) h2
        refine ⟨s, s0, s1, s2, s3, fun res h => step res (ev_neg (fun e => c1 (g2.1 e)) ?_)⟩
        rw [w_suc _ (by omega)]; exact s4 res h
    · obtain rfl : i = j := by omega
      exact ⟨i, hsi, hj, h1, h2, fun res h => h⟩
theorem gA {A L R B : List Tn} {i : Nat} (h : i < L.length) (h' : A.length + i < (A ++ L ++ R ++ B).length) : (A ++ L ++ R ++ B)[A.length + i] = L[i] := by
  rw [List.getElem_append_left (by simp; omega), List.getElem_append_left (by simp; omega), List.getElem_append_right (by omega)]; congr 1; omega
theorem gR {A L R B : List Tn} {i : Nat} (h : i < R.length) (h' : A.length + L.length + i < (A ++ L ++ R ++ B).length) : (A ++ L ++ R ++ B)[A.length + L.length + i] = R[i] := by
  rw [List.getElem_append_left (by simp; omega), List.getElem_append_right (by simp)]; congr 1; simp
set_option maxHeartbeats 4000000 in
theorem merge_ev (c : Nat) : ∀ (s : Nat) (A L R B : List Tn), L.length + R.length ≤ s → 0 < L.length → 0 < R.length → Srt L → Srt R → A.length + L.length + R.length + B.length < 400000 →
    ∃ M, Srt M ∧ M.Perm (L ++ R) ∧ Ev (fun k => api_Turn_107.f k (A ++ L ++ R ++ B) (A.length : Int) ((A.length + L.length : Nat) : Int) ((A.length + L.length + R.length : Nat) : Int) (c : Int)) (A ++ M ++ B) := by
  intro s
  induction s with
  | zero => intro A L R B h h0; omega
  | succ s ih =>
    intro A L R B h hL hR sL sR hl
    by_cases c1 : L.length = 1
    · -- one ahead
      obtain ⟨x, rfl⟩ := List.length_eq_one_iff.1 c1
      obtain ⟨t, t1, t2, t3, t4⟩ := one_l0 A R B x sR (by omega) R.length 0 R.length (by omega) (Nat.zero_le _) (Nat.le_refl _) (fun h _ hh => by omega) (fun h hh hh2 => by omega)
      refine ⟨R.take t ++ x :: R.drop t, ?_, ?_, ?_⟩
      · refine List.pairwise_append.2 ⟨sR.sublist (List.take_sublist _ _), List.pairwise_cons.2 ⟨fun y hy => ?_, sR.sublist (List.drop_sublist _ _)⟩, fun y hy z hz => ?_⟩
        · obtain ⟨i, hi, rfl⟩ := List.getElem_of_mem hy
          rw [List.length_drop] at hi
          rw [List.getElem_drop]
          exact t3 _ (by omega) (by omega)
        · obtain ⟨i, hi, rfl⟩ := List.getElem_of_mem hy
          rw [List.length_take] at hi
          rw [List.getElem_take]
          have hyx := t2 i (by omega) (by omega)
          rcases List.mem_cons.1 hz with rfl | hz
          · exact le_of_lt hyx
          · obtain ⟨j, hj, rfl⟩ := List.getElem_of_mem hz
            rw [List.length_drop] at hj
            rw [List.getElem_drop]
            exact at_lt sR (by omega) (by omega) (by omega)
      · refine List.perm_middle.trans ?_
        rw [List.take_append_drop]; exact List.Perm.refl _
      · refine Ev.step (fun k => by rw [api_Turn_107.f]) ?_
        rw [w_sub A.length [x].length (by omega)]
        refine ev_pos (by simp) ?_
        have hlt : (R.take t).length = t := by rw [List.length_take]; omega
        have u := up_l1 A (R.drop t ++ B) x t (by simp; omega) (R.take t) [] (by simp; omega)
        have e1 : A ++ [] ++ x :: R.take t ++ (R.drop t ++ B) = A ++ x :: R ++ B := by
          have : R.take t ++ (R.drop t ++ B) = R ++ B := by rw [← List.append_assoc, List.take_append_drop]
          simp only [List.append_nil, List.append_assoc, List.cons_append, this]
        have e2 : A ++ ([] ++ R.take t) ++ x :: (R.drop t ++ B) = A ++ (R.take t ++ x :: R.drop t) ++ B := by simp
        rw [e1, e2] at u
        have v := t4 _ u
        have e3 : A ++ [x] ++ R ++ B = A ++ x :: R ++ B := by simp
        rw [e3]
        simpa using v
    · by_cases c2 : R.length = 1
      · obtain ⟨y, rfl⟩ := List.length_eq_one_iff.1 c2
        obtain ⟨t, t1, t2, t3, t4⟩ := last_l2 A L B y sL (by simp at hl; omega) L.length 0 L.length (by omega) (Nat.zero_le _) (Nat.le_refl _) (fun h _ hh => by omega) (fun h hh hh2 => by omega)
        refine ⟨L.take t ++ y :: L.drop t, ?_, ?_, ?_⟩
        · refine List.pairwise_append.2 ⟨sL.sublist (List.take_sublist _ _), List.pairwise_cons.2 ⟨fun z hz => ?_, sL.sublist (List.drop_sublist _ _)⟩, fun z hz z' hz' => ?_⟩
          · obtain ⟨i, hi, rfl⟩ := List.getElem_of_mem hz
            rw [List.length_drop] at hi
            rw [List.getElem_drop]
            exact le_of_lt (t3 _ (by omega) (by omega))
          · obtain ⟨i, hi, rfl⟩ := List.getElem_of_mem hz
            rw [List.length_take] at hi
            rw [List.getElem_take]
            rcases List.mem_cons.1 hz' with rfl | hz'
            · exact t2 i (by omega) (by omega)
            · obtain ⟨j, hj, rfl⟩ := List.getElem_of_mem hz'
              rw [List.length_drop] at hj
              rw [List.getElem_drop]
              exact at_lt sL (by omega) (by omega) (by omega)
        · refine List.perm_middle.trans ?_
          rw [List.take_append_drop]
          exact (List.perm_append_comm (l₁ := L) (l₂ := [y])).symm
        · refine Ev.step (fun k => by rw [api_Turn_107.f]) ?_
          rw [w_sub A.length L.length (by omega), w_sub (A.length + L.length) [y].length (by omega)]
          refine ev_neg (by omega) (ev_pos (by simp) ?_)
          have hlt : (L.take t).length = t := by rw [List.length_take]; omega
          have u := down_l3 A B (L.take t) y (L.length - t) (by rw [hlt]; simp at hl; omega) (L.length - t) (L.drop t) [] List.length_drop (by rw [List.length_drop]; simp)
          rw [List.length_drop, hlt, show A.length + t + (L.length - t) = A.length + L.length by omega] at u
          have e1 : A ++ L.take t ++ L.drop t ++ y :: [] ++ B = A ++ L ++ y :: B := by rw [List.append_assoc A, List.take_append_drop]; simp
          have e2 : A ++ L.take t ++ y :: (L.drop t ++ []) ++ B = A ++ (L.take t ++ y :: L.drop t) ++ B := by simp
          rw [e1, e2] at u
          have v := t4 _ u
          have e3 : A ++ L ++ [y] ++ B = A ++ L ++ y :: B := by simp
          rw [e3]
          simpa using v
      · -- both longer: parted, turned, and each half again
        have hlen : (A ++ L ++ R ++ B).length = A.length + L.length + R.length + B.length := by simp; omega
        obtain ⟨mid, hmid⟩ : ∃ q, q = (A.length + (A.length + L.length + R.length)) / 2 := ⟨_, rfl⟩
        obtain ⟨n, hn⟩ : ∃ q, q = mid + (A.length + L.length) := ⟨_, rfl⟩
        obtain ⟨st, hst⟩ : ∃ q, q = if A.length + L.length > mid then n - (A.length + L.length + R.length) else A.length := ⟨_, rfl⟩
        obtain ⟨r0, hr0⟩ : ∃ q, q = if A.length + L.length > mid then mid else A.length + L.length := ⟨_, rfl⟩
        have b1 : A.length ≤ st ∧ st ≤ r0 ∧ r0 ≤ A.length + L.length ∧ r0 ≤ mid ∧ n ≤ st + (A.length + L.length + R.length) := by
          rw [hst, hr0]; split <;> omega
        obtain ⟨b2, b3, b4, b5, b6⟩ := b1
        obtain ⟨t, t0, t1, t2, t3, t4⟩ := part_l4 (A ++ L ++ R ++ B) A.length (A.length + L.length) (A.length + L.length + R.length) c mid n (n - 1) st r0 (by omega) (by omega)
          (fun i j hi hj h1 h2 h3 => by
            obtain ⟨i', rfl⟩ : ∃ i', i = A.length + i' := ⟨i - A.length, by omega⟩
            obtain ⟨j', rfl⟩ : ∃ j', j = A.length + j' := ⟨j - A.length, by omega⟩
            rw [gA (by omega), gA (by omega)]
            exact at_lt sL (by omega) (by omega) (by omega))
          (fun i h1 h2 => by omega)
          (fun i j hi hj h1 h2 h3 => by
            obtain ⟨i', hi'⟩ : ∃ i', n - 1 - i = A.length + L.length + i' := ⟨n - 1 - i - (A.length + L.length), by omega⟩
            obtain ⟨j', hj'⟩ : ∃ j', n - 1 - j = A.length + L.length + j' := ⟨n - 1 - j - (A.length + L.length), by omega⟩
            simp only [hi', hj']
            rw [gR (by omega), gR (by omega)]
            exact at_lt sR (by omega) (by omega) (by omega))
          (r0 - st) st r0 (Nat.le_refl _) (Nat.le_refl _) b3 (Nat.le_refl _) (fun h _ _ h1 h2 => by omega) (fun h _ _ h1 h2 => by omega)
        -- the four parts
        obtain ⟨u, hu⟩ : ∃ q, q = t - A.length := ⟨_, rfl⟩
        obtain ⟨v, hv⟩ : ∃ q, q = mid - t := ⟨_, rfl⟩
        have hL1 : (L.take u).length = u := by rw [List.length_take]; omega
        have hL2 : (L.drop u).length = L.length - u := List.length_drop
        have hR1 : (R.take v).length = v := by rw [List.length_take]; omega
        have hR2 : (R.drop v).length = R.length - v := List.length_drop
        have eL : L.take u ++ L.drop u = L := List.take_append_drop _ _
        have eR : R.take v ++ R.drop v = R := List.take_append_drop _ _
        have sL1 : Srt (L.take u) := sL.sublist (List.take_sublist _ _)
        have sL2 : Srt (L.drop u) := sL.sublist (List.drop_sublist _ _)
        have sR1 : Srt (R.take v) := sR.sublist (List.take_sublist _ _)
        have sR2 : Srt (R.drop v) := sR.sublist (List.drop_sublist _ _)
        -- what is in the first half is not behind what is in the second
        have x1 : ∀ y ∈ L.take u, ∀ z ∈ L.drop u, leT y z := (List.pairwise_append.1 (by rw [eL]; exact sL : Srt (L.take u ++ L.drop u))).2.2
        have x2 : ∀ y ∈ R.take v, ∀ z ∈ R.drop v, leT y z := (List.pairwise_append.1 (by rw [eR]; exact sR : Srt (R.take v ++ R.drop v))).2.2
        have x3 : ∀ y ∈ R.take v, ∀ z ∈ L.drop u, leT y z := fun y hy z hz => by
          obtain ⟨i, hi, rfl⟩ := List.getElem_of_mem hy
          obtain ⟨j, hj, rfl⟩ := List.getElem_of_mem hz
          rw [hR1] at hi; rw [hL2] at hj
          rw [List.getElem_take, List.getElem_drop]
          have htr : t < r0 := by rw [hr0]; split <;> omega
          have e1 : n - 1 - t = A.length + L.length + (v - 1) := by omega
          have e2 : t = A.length + u := by omega
          have g := t3 t (by omega) (by omega) (Nat.le_refl _) htr
          simp only [e1] at g
          rw [gR (by omega)] at g
          have g2 : ltT R[v - 1] L[u] := by
            have e3 : (A ++ L ++ R ++ B)[t]'(by omega) = L[u] := by
              have := gA (A := A) (L := L) (R := R) (B := B) (i := u) (by omega) (by omega)
              rw [← this]; congr 1
            rw [e3] at g; exact g
          exact le_trans (at_lt sR (by omega) (by omega) (by omega)) (le_trans (le_of_lt g2) (at_lt sL (by omega) (by omega) (by omega)))
        have x4 : ∀ y ∈ L.take u, ∀ z ∈ R.drop v, leT y z := fun y hy z hz => by
          obtain ⟨i, hi, rfl⟩ := List.getElem_of_mem hy
          obtain ⟨j, hj, rfl⟩ := List.getElem_of_mem hz
          rw [hL1] at hi; rw [hR2] at hj
          rw [List.getElem_take, List.getElem_drop]
          have hts : st ≤ t - 1 ∧ t - 1 < t := by
            refine ⟨?_, by omega⟩
            have : st < t := by
              have h5 : st = if A.length + L.length > mid then n - (A.length + L.length + R.length) else A.length := hst
              split at h5 <;> omega
            omega
          have e1 : n - 1 - (t - 1) = A.length + L.length + v := by omega
          have g := t2 (t - 1) (by omega) (by omega) hts.1 hts.2
          simp only [e1] at g
          rw [gR (by omega)] at g
          have e3 : (A ++ L ++ R ++ B)[t - 1]'(by omega) = L[u - 1] := by
            have := gA (A := A) (L := L) (R := R) (B := B) (i := u - 1) (by omega) (by omega)
            rw [← this]; congr 1; omega
          rw [e3] at g
          exact le_trans (at_lt sL (by omega) (by omega) (by omega)) (le_trans g (at_lt sR (by omega) (by omega) (by omega)))
        -- each half
        have half1 : ∀ Z : List Tn, A.length + u + v + Z.length < 400000 → ∃ M, Srt M ∧ M.Perm (L.take u ++ R.take v) ∧ ∀ res, Ev (fun k => api_Turn_107.j9 k (A ++ M ++ Z) ((A.length + L.length + R.length : Nat) : Int) (c : Int) (mid : Int) ((n - t : Nat) : Int)) res →
            Ev (fun k => api_Turn_107.j7 k (A ++ L.take u ++ R.take v ++ Z) (A.length : Int) ((A.length + L.length + R.length : Nat) : Int) (c : Int) (mid : Int) (t : Int) ((n - t : Nat) : Int)) res := fun Z hZ => by
          have skip : ∀ M : List Tn, M = L.take u ++ R.take v → (¬ (A.length < t) ∨ ¬ (t < mid)) → ∀ res, Ev (fun k => api_Turn_107.j9 k (A ++ M ++ Z) ((A.length + L.length + R.length : Nat) : Int) (c : Int) (mid : Int) ((n - t : Nat) : Int)) res →
              Ev (fun k => api_Turn_107.j7 k (A ++ L.take u ++ R.take v ++ Z) (A.length : Int) ((A.length + L.length + R.length : Nat) : Int) (c : Int) (mid : Int) (t : Int) ((n - t : Nat) : Int)) res := fun M hM hn res h3 => by
            have e : A ++ M ++ Z = A ++ L.take u ++ R.take v ++ Z := by rw [hM]; simp
            rw [e] at h3
            have no : Ev (fun k => api_Turn_107.j8 k (A ++ L.take u ++ R.take v ++ Z) (A.length : Int) ((A.length + L.length + R.length : Nat) : Int) (c : Int) (mid : Int) (t : Int) ((n - t : Nat) : Int) false) res := by
              refine Ev.step (fun k => by rw [api_Turn_107.j8]) ?_
              exact ev_neg Bool.false_ne_true h3
            refine Ev.step (fun k => by rw [api_Turn_107.j7]) ?_
            by_cases q1 : A.length < t
            · refine ev_pos (by omega) ?_
              rw [decide_eq_false (show ¬ (t : Int) < (mid : Int) by omega)]; exact no
            · exact ev_neg (by omega) no
          by_cases q : A.length < t ∧ t < mid
          · obtain ⟨M, m1, m2, m3⟩ := ih A (L.take u) (R.take v) Z (by omega) (by omega) (by omega) sL1 sR1 (by omega)
            refine ⟨M, m1, m2, fun res h3 => ?_⟩
            refine Ev.step (fun k => by rw [api_Turn_107.j7]) ?_
            refine ev_pos (by omega) ?_
            rw [decide_eq_true (show (t : Int) < (mid : Int) by omega)]
            refine Ev.step (fun k => by rw [api_Turn_107.j8]) ?_
            refine ev_pos rfl ?_
            rw [hL1, hR1, show A.length + u = t by omega, show t + v = mid by omega] at m3
            exact Ev.bind m3 h3
          · refine ⟨L.take u ++ R.take v, ?_, List.Perm.refl _, skip _ rfl (by omega)⟩
            rcases Nat.eq_zero_or_pos u with h0 | h0
            · rw [h0, List.take_zero, List.nil_append]; exact sR1
            · have : v = 0 := by omega
              rw [this, List.take_zero, List.append_nil]; exact sL1
        have half2 : ∀ Y : List Tn, Y.length = mid → ∃ M, Srt M ∧ M.Perm (L.drop u ++ R.drop v) ∧ Ev (fun k => api_Turn_107.j9 k (Y ++ L.drop u ++ R.drop v ++ B) ((A.length + L.length + R.length : Nat) : Int) (c : Int) (mid : Int) ((n - t : Nat) : Int)) (Y ++ M ++ B) := fun Y hY => by
          by_cases q : mid < n - t ∧ n - t < A.length + L.length + R.length
          · obtain ⟨M, m1, m2, m3⟩ := ih Y (L.drop u) (R.drop v) B (by omega) (by omega) (by omega) sL2 sR2 (by omega)
            refine ⟨M, m1, m2, ?_⟩
            refine Ev.step (fun k => by rw [api_Turn_107.j9]) ?_
            refine ev_pos (by omega) (ev_pos (by omega) ?_)
            rw [hL2, hR2, hY, show mid + (L.length - u) = n - t by omega, show n - t + (R.length - v) = A.length + L.length + R.length by omega] at m3
            exact Ev.bind m3 (Ev.now _)
          · refine ⟨L.drop u ++ R.drop v, ?_, List.Perm.refl _, ?_⟩
            · rcases Nat.eq_zero_or_pos (L.length - u) with h0 | h0
              · rw [List.drop_eq_nil_of_le (by omega : L.length ≤ u), List.nil_append]; exact sR2
              · rw [List.drop_eq_nil_of_le (by omega : R.length ≤ v), List.append_nil]; exact sL2
            · have e : Y ++ (L.drop u ++ R.drop v) ++ B = Y ++ L.drop u ++ R.drop v ++ B := by simp
              rw [e]
              refine Ev.step (fun k => by rw [api_Turn_107.j9]) ?_
              by_cases q1 : mid < n - t
              · exact ev_pos (by omega) (ev_neg (by omega) (Ev.now _))
              · exact ev_neg (by omega) (Ev.now _)
        obtain ⟨M1, m1, m2, m3⟩ := half1 (L.drop u ++ R.drop v ++ B) (by simp only [List.length_append]; omega)
        have hM1 : M1.length = u + v := by have := m2.length_eq; rw [List.length_append, hL1, hR1] at this; exact this
        obtain ⟨M2, k1, k2, k3⟩ := half2 (A ++ M1) (by rw [List.length_append]; omega)
        refine ⟨M1 ++ M2, ?_, ?_, ?_⟩
        · refine List.pairwise_append.2 ⟨m1, k1, fun y hy z hz => ?_⟩
          rcases List.mem_append.1 (m2.subset hy) with hy | hy <;> rcases List.mem_append.1 (k2.subset hz) with hz | hz
          · exact x1 y hy z hz
          · exact x4 y hy z hz
          · exact x3 y hy z hz
          · exact x2 y hy z hz
        · refine (m2.append k2).trans ?_
          have p1 : ((L.take u ++ R.take v) ++ (L.drop u ++ R.drop v)).Perm ((L.take u ++ L.drop u) ++ (R.take v ++ R.drop v)) := by
            simp only [List.append_assoc]
            refine List.Perm.append_left _ ?_
            rw [← List.append_assoc, ← List.append_assoc]
            exact List.Perm.append_right _ List.perm_append_comm
          rw [eL, eR] at p1; exact p1
        · -- put together
          have fin := m3 _ (by
            have e : A ++ M1 ++ (L.drop u ++ R.drop v ++ B) = A ++ M1 ++ L.drop u ++ R.drop v ++ B := by simp
            rw [e]; exact k3)
          have eres : A ++ M1 ++ M2 ++ B = A ++ (M1 ++ M2) ++ B := by simp
          rw [eres] at fin
          have el7 : A ++ L.take u ++ R.take v ++ (L.drop u ++ R.drop v ++ B) = A ++ L.take u ++ R.take v ++ L.drop u ++ R.drop v ++ B := by simp
          rw [el7] at fin
          have el4 : A ++ L ++ R ++ B = A ++ L.take u ++ L.drop u ++ R.take v ++ (R.drop v ++ B) := by
            have e : A ++ L ++ R ++ B = A ++ (L.take u ++ L.drop u) ++ (R.take v ++ R.drop v) ++ B := by rw [eL, eR]
            rw [e]; simp only [List.append_assoc]
          have j6 : Ev (fun k => api_Turn_107.l4 k (A ++ L ++ R ++ B) (A.length : Int) ((A.length + L.length : Nat) : Int) ((A.length + L.length + R.length : Nat) : Int) (c : Int) (mid : Int) (n : Int) (t : Int) (t : Int) ((n - 1 : Nat) : Int)) (A ++ (M1 ++ M2) ++ B) := by
            refine Ev.step (fun k => by rw [api_Turn_107.l4]) ?_
            rw [w_sub2 n t (by omega) (by omega)]
            refine ev_neg (by omega) ?_
            have noturn : (L.length - u = 0 ∨ v = 0) → Ev (fun k => api_Turn_107.j6 k (A ++ L ++ R ++ B) (A.length : Int) ((A.length + L.length : Nat) : Int) ((A.length + L.length + R.length : Nat) : Int) (c : Int) (mid : Int) (t : Int) ((n - t : Nat) : Int) false) (A ++ (M1 ++ M2) ++ B) := fun h0 => by
              refine Ev.step (fun k => by rw [api_Turn_107.j6]) ?_
              refine ev_neg Bool.false_ne_true ?_
              have e : A ++ L ++ R ++ B = A ++ L.take u ++ R.take v ++ L.drop u ++ R.drop v ++ B := by
                rw [el4]
                rcases h0 with h0 | h0
                · rw [List.drop_eq_nil_of_le (by omega : L.length ≤ u)]; simp only [List.append_nil, List.append_assoc]
                · rw [h0, List.take_zero]; simp only [List.append_nil, List.append_assoc]
              rw [e]; exact fin
            by_cases q1 : t < A.length + L.length
            · refine ev_pos (by omega) ?_
              by_cases q2 : A.length + L.length < n - t
              · rw [decide_eq_true (show ((A.length + L.length : Nat) : Int) < ((n - t : Nat) : Int) by omega)]
                refine Ev.step (fun k => by rw [api_Turn_107.j6]) ?_
                refine ev_pos rfl ?_
                have rt := rot_ev (A ++ L.take u) (L.drop u) (R.take v) (R.drop v ++ B) c (by omega) (by omega) (by simp only [List.length_append]; omega)
                rw [List.length_append, hL1, hL2, hR1, show A.length + u = t by omega, show t + (L.length - u) = A.length + L.length by omega, show A.length + L.length + v = n - t by omega, ← el4] at rt
                have e : A ++ L.take u ++ R.take v ++ L.drop u ++ (R.drop v ++ B) = A ++ L.take u ++ R.take v ++ L.drop u ++ R.drop v ++ B := by simp
                rw [e] at rt
                exact Ev.bind rt fin
              · rw [decide_eq_false (show ¬ ((A.length + L.length : Nat) : Int) < ((n - t : Nat) : Int) by omega)]
                exact noturn (.inr (by omega))
            · exact ev_neg (by omega) (noturn (.inl (by omega)))
          have l4 := t4 _ j6
          have j4 : Ev (fun k => api_Turn_107.j4 k (A ++ L ++ R ++ B) (A.length : Int) ((A.length + L.length : Nat) : Int) ((A.length + L.length + R.length : Nat) : Int) (c : Int) (mid : Int) (n : Int) (st : Int) (r0 : Int)) (A ++ (M1 ++ M2) ++ B) := by
            refine Ev.step (fun k => by rw [api_Turn_107.j4]) ?_
            rw [w_one n (by omega) (by omega)]; exact l4
          refine Ev.step (fun k => by rw [api_Turn_107.f]) ?_
          rw [w_sub A.length L.length (by omega), w_sub (A.length + L.length) R.length (by omega), half A.length (A.length + L.length + R.length) (by omega), ← hmid, w_add mid (A.length + L.length) (by omega), ← hn]
          refine ev_neg (by omega) (ev_neg (by omega) ?_)
          by_cases hc : A.length + L.length > mid
          · refine ev_pos (by omega) ?_
            rw [if_pos hc] at hst hr0
            rw [hst, hr0] at j4
            rw [w_sub2 n (A.length + L.length + R.length) (by omega) (by omega)]
            exact j4
          · refine ev_neg (by omega) ?_
            rw [if_neg hc] at hst hr0
            rw [hst, hr0] at j4
            exact j4
/-! ### the whole sort -/
/-- Rows in order, one behind another, of so many each; the last may be shorter. -/
inductive Blk (bs : Nat) : List Tn → Prop
  | last (l : List Tn) : l.length ≤ bs → Srt l → Blk bs l
  | cons (X l : List Tn) : X.length = bs → Srt X → Blk bs l → Blk bs (X ++ l)
theorem Blk.small {bs : Nat} {l : List Tn} (h : Blk bs l) (hl : l.length ≤ bs) : Srt l := by
  cases h with
  | last _ _ h2 => exact h2
  | cons X l' h1 h2 h3 =>
    have : l' = [] := by apply List.length_eq_zero_iff.1; rw [List.length_append] at hl; omega
    rw [this, List.append_nil]; exact h2
theorem Blk.uncons {bs : Nat} {l : List Tn} (h : Blk bs l) (hl : bs ≤ l.length) : ∃ X l', l = X ++ l' ∧ X.length = bs ∧ Srt X ∧ Blk bs l' := by
  cases h with
  | last _ h1 h2 => exact ⟨l, [], by simp, by omega, h2, .last [] (Nat.zero_le _) List.Pairwise.nil⟩
  | cons X l' h1 h2 h3 => exact ⟨X, l', rfl, h1, h2, h3⟩
theorem blocks_l0 (c : Nat) : ∀ (d : Nat) (A l : List Tn), l.length ≤ d → A.length + l.length < 300000 →
    ∃ r, Blk 20 r ∧ r.Perm l ∧ ∀ res, Ev (fun k => api_Turn_105.l1 k (A ++ r) ((A.length + l.length : Nat) : Int) (c : Int) 20) res →
      Ev (fun k => api_Turn_105.l0 k (A ++ l) ((A.length + l.length : Nat) : Int) (c : Int) 20 (A.length : Int) ((A.length + 20 : Nat) : Int)) res := by
  intro d
  induction d with
  | zero =>
    intro A l hd hl
    obtain rfl : l = [] := List.length_eq_zero_iff.1 (by omega)
    obtain ⟨R, r1, r2, r3⟩ := ins_ev A [] [] (c : Int) (by simp; omega)
    refine ⟨R, .last R (by rw [r2.length_eq]; simp) r1, r2, fun res h => ?_⟩
    refine Ev.step (fun k => by rw [api_Turn_105.l0]) ?_
    refine ev_neg (by rw [List.length_nil]; omega) ?_
    simp only [List.append_nil] at r3 ⊢
    exact Ev.bind r3 h
  | succ d ih =>
    intro A l hd hl
    by_cases hc : 20 ≤ l.length
    · have e : l = l.take 20 ++ l.drop 20 := (List.take_append_drop _ _).symm
      have e1 : (l.take 20).length = 20 := by rw [List.length_take]; omega
      have e2 : (l.drop 20).length = l.length - 20 := List.length_drop
      obtain ⟨R, r1, r2, r3⟩ := ins_ev A (l.take 20) (l.drop 20) (c : Int) (by omega)
      have hR : R.length = 20 := by rw [r2.length_eq, e1]
      obtain ⟨S, s1, s2, s3⟩ := ih (A ++ R) (l.drop 20) (by omega) (by rw [List.length_append]; omega)
      refine ⟨R ++ S, .cons R S hR r1 s1, ?_, fun res h => ?_⟩
      · exact (r2.append s2).trans (by rw [List.take_append_drop])
      · refine Ev.step (fun k => by rw [api_Turn_105.l0]) ?_
        refine ev_pos (by omega) ?_
        rw [e1, List.append_assoc, List.take_append_drop] at r3
        refine Ev.bind r3 ?_
        rw [show (20 : Int) = ((20 : Nat) : Int) from rfl, w_add (A.length + 20) 20 (by omega)]
        have h2 := s3 res (by
          rw [List.length_append, hR, e2, show A.length + 20 + (l.length - 20) = A.length + l.length by omega, List.append_assoc]; exact h)
        rw [List.length_append, hR, e2, show A.length + 20 + (l.length - 20) = A.length + l.length by omega] at h2
        exact h2
    · obtain ⟨R, r1, r2, r3⟩ := ins_ev A l [] (c : Int) (by simp; omega)
      refine ⟨R, .last R (by rw [r2.length_eq]; omega) r1, r2, fun res h => ?_⟩
      refine Ev.step (fun k => by rw [api_Turn_105.l0]) ?_
      refine ev_neg (by omega) ?_
      simp only [List.append_nil] at r3
      exact Ev.bind r3 h
theorem merges_l2 (c bs : Nat) (hbs : 0 < bs) (hb2 : bs < 600000) : ∀ (d : Nat) (A l : List Tn), l.length ≤ d → Blk bs l → A.length + l.length < 300000 →
    ∃ r, Blk (2 * bs) r ∧ r.Perm l ∧ ∀ res, Ev (fun k => api_Turn_105.l1 k (A ++ r) ((A.length + l.length : Nat) : Int) (c : Int) ((2 * bs : Nat) : Int)) res →
      Ev (fun k => api_Turn_105.l2 k (A ++ l) ((A.length + l.length : Nat) : Int) (c : Int) (bs : Int) (A.length : Int) ((A.length + 2 * bs : Nat) : Int)) res := by
  intro d
  have w2 : wrap64 ((bs : Int) * 2) = ((2 * bs : Nat) : Int) := by rw [wrs (by omega) (by omega)]; omega
  have w3 : wrap64 (2 * (bs : Int)) = ((2 * bs : Nat) : Int) := by rw [wrs (by omega) (by omega)]; omega
  induction d with
  | zero =>
    intro A l hd hB hl
    refine ⟨l, .last l (by omega) (hB.small (by omega)), List.Perm.refl _, fun res h => ?_⟩
    refine Ev.step (fun k => by rw [api_Turn_105.l2]) ?_
    rw [w_add A.length bs (by omega), w2]
    exact ev_neg (by omega) (ev_neg (by omega) h)
  | succ d ih =>
    intro A l hd hB hl
    by_cases hc : 2 * bs ≤ l.length
    · obtain ⟨X, l1, rfl, x1, x2, x3⟩ := hB.uncons (by omega)
      rw [List.length_append] at hc hd hl
      obtain ⟨Y, l2, rfl, y1, y2, y3⟩ := x3.uncons (by omega)
      rw [List.length_append] at hc hd hl
      obtain ⟨M, m1, m2, m3⟩ := merge_ev c (X.length + Y.length) A X Y l2 (Nat.le_refl _) (by omega) (by omega) x2 y2 (by omega)
      have hM : M.length = 2 * bs := by rw [m2.length_eq, List.length_append]; omega
      obtain ⟨S, s1, s2, s3⟩ := ih (A ++ M) l2 (by omega) y3 (by rw [List.length_append]; omega)
      refine ⟨M ++ S, .cons M S hM m1 s1, ?_, fun res h => ?_⟩
      · have := m2.append s2
        rw [List.append_assoc] at this; exact this
      · refine Ev.step (fun k => by rw [api_Turn_105.l2]) ?_
        rw [w_add A.length bs (by omega), w2, w3, w_add (A.length + 2 * bs) (2 * bs) (by omega)]
        refine ev_pos (by simp only [List.length_append]; omega) ?_
        rw [x1, y1, show A.length + bs + bs = A.length + 2 * bs by omega] at m3
        have e : A ++ (X ++ (Y ++ l2)) = A ++ X ++ Y ++ l2 := by simp only [List.append_assoc]
        rw [e]
        refine Ev.bind m3 ?_
        have h2 := s3 res (by
          rw [List.length_append, hM, List.append_assoc]
          simp only [List.length_append, x1, y1] at h
          rw [show A.length + 2 * bs + l2.length = A.length + (bs + (bs + l2.length)) by omega]; exact h)
        rw [List.length_append, hM, show A.length + 2 * bs + l2.length = A.length + (bs + (bs + l2.length)) by omega] at h2
        simp only [List.length_append, x1, y1]
        exact h2
    · by_cases hc2 : bs < l.length
      · obtain ⟨X, l1, rfl, x1, x2, x3⟩ := hB.uncons (by omega)
        rw [List.length_append] at hc hc2 hl
        obtain ⟨M, m1, m2, m3⟩ := merge_ev c (X.length + l1.length) A X l1 [] (Nat.le_refl _) (by omega) (by omega) x2 (x3.small (by omega)) (by simp; omega)
        have hM : M.length = bs + l1.length := by rw [m2.length_eq, List.length_append]; omega
        refine ⟨M, .last M (by omega) m1, m2, fun res h => ?_⟩
        refine Ev.step (fun k => by rw [api_Turn_105.l2]) ?_
        rw [w_add A.length bs (by omega), w2]
        refine ev_neg (by simp only [List.length_append]; omega) (ev_pos (by simp only [List.length_append]; omega) ?_)
        rw [x1] at m3
        simp only [List.append_nil] at m3
        simp only [List.length_append, x1] at h ⊢
        rw [← List.append_assoc]
        rw [show A.length + (bs + l1.length) = A.length + bs + l1.length by omega] at h ⊢
        exact Ev.bind m3 h
      · refine ⟨l, .last l (by omega) (hB.small (by omega)), List.Perm.refl _, fun res h => ?_⟩
        refine Ev.step (fun k => by rw [api_Turn_105.l2]) ?_
        rw [w_add A.length bs (by omega), w2]
        exact ev_neg (by omega) (ev_neg (by omega) h)
theorem stable_l1 (c : Nat) : ∀ (d : Nat) (bs : Nat) (l : List Tn), l.length - bs ≤ d → 0 < bs → Blk bs l → l.length < 300000 → bs < 600000 →
    ∃ r, Srt r ∧ r.Perm l ∧ Ev (fun k => api_Turn_105.l1 k l (l.length : Int) (c : Int) (bs : Int)) r := by
  intro d
  induction d with
  | zero =>
    intro bs l hd hb hB hl hb2
    refine ⟨l, hB.small (by omega), List.Perm.refl _, ?_⟩
    refine Ev.step (fun k => by rw [api_Turn_105.l1]) ?_
    exact ev_neg (by omega) (Ev.now _)
  | succ d ih =>
    intro bs l hd hb hB hl hb2
    by_cases hc : bs < l.length
    · obtain ⟨r, r1, r2, r3⟩ := merges_l2 c bs hb hb2 l.length [] l (Nat.le_refl _) hB (by simp; omega)
      obtain ⟨q, q1, q2, q3⟩ := ih (2 * bs) r (by rw [r2.length_eq]; omega) (by omega) r1 (by rw [r2.length_eq]; omega) (by omega)
      refine ⟨q, q1, q2.trans r2, ?_⟩
      refine Ev.step (fun k => by rw [api_Turn_105.l1]) ?_
      refine ev_pos (by omega) ?_
      have w3 : wrap64 (2 * (bs : Int)) = ((2 * bs : Nat) : Int) := by rw [wrs (by omega) (by omega)]; omega
      rw [r2.length_eq] at q3
      have h := r3 q (by simpa using q3)
      rw [w3]
      simpa using h
    · refine ⟨l, hB.small (by omega), List.Perm.refl _, ?_⟩
      refine Ev.step (fun k => by rw [api_Turn_105.l1]) ?_
      exact ev_neg (by omega) (Ev.now _)
/-- The library's stable sort puts turns in order. -/
theorem sort_ev (l : List Tn) (hl : l.length < 300000) : ∃ r, Srt r ∧ r.Perm l ∧ Ev (fun k => api_Turn_97.f k l 0) r := by
  obtain ⟨b, b1, b2, b3⟩ := blocks_l0 0 l.length [] l (Nat.le_refl _) (by simp; omega)
  obtain ⟨r, r1, r2, r3⟩ := stable_l1 0 b.length 20 b (by omega) (by omega) b1 (by rw [b2.length_eq]; omega) (by omega)
  refine ⟨r, r1, r2.trans b2, ?_⟩
  unfold api_Turn_97.f api_Turn_105.f
  rw [b2.length_eq] at r3
  have h := b3 r (by simpa using r3)
  refine Ev.bind (by simpa using h) (Ev.now _)
theorem srt_unique {l m : List Tn} (hl : Srt l) (hm : Srt m) (h : l.Perm m) : l = m :=
  h.eq_of_pairwise (fun a b _ _ h1 h2 => le_antisymm h1 h2) hl hm
end Ds
end Go.Proofs.Ytcfpbmdndapeaaa.F
