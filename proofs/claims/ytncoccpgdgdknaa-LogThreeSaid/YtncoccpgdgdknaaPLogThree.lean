/- The pure statement of LogThree: three rows have in common what the first one has with each of the others. -/
import Derived.Test.YtncoccpgdgdknaaL
import Derived.Test.YtncoccpgdgdknaaJ
import Derived.Test.YtncoccpgdgdknaaQLogThree
namespace Go.Proofs.Ytncoccpgdgdknaa.F
open Go.RowKit Go.Proofs.YtncoccpgdgdknaaW.PrintWords Go.Proofs.YtncoccpgdgdknaaW.PrintLast
/-- What all of some rows begin with: n of them. -/
def all_ (L : List (List ByteArray)) (n : Nat) : Prop := (∀ x ∈ L, n ≤ x.length) ∧ ∀ x ∈ L, ∀ y ∈ L, (ks x).take n = (ks y).take n
theorem le_cm_all (a : List ByteArray) (r : List (List ByteArray)) (n : Nat) : n ≤ cm a r ↔ all_ (a :: r) n := by
  rw [le_cm]
  unfold all_
  constructor
  · rintro ⟨h1, h2⟩
    have h3 : ∀ x ∈ a :: r, n ≤ x.length ∧ (ks a).take n = (ks x).take n := by
      intro x hx
      rcases List.mem_cons.1 hx with rfl | hx
      · exact ⟨h1, rfl⟩
      · have := (le_cp _ _ _).1 (h2 x hx)
        rw [ks_len, ks_len] at this
        exact ⟨this.2.1, this.2.2⟩
    exact ⟨fun x hx => (h3 x hx).1, fun x hx y hy => (h3 x hx).2.symm.trans (h3 y hy).2⟩
  · rintro ⟨h1, h2⟩
    refine ⟨h1 a (by simp), fun m hm => (le_cp _ _ _).2 ⟨?_, ?_, ?_⟩⟩
    · rw [ks_len]; exact h1 a (by simp)
    · rw [ks_len]; exact h1 m (by simp [hm])
    · exact h2 a (by simp) m (by simp [hm])
theorem cm_same (a a' : List ByteArray) (r r' : List (List ByteArray)) (h : ∀ x, x ∈ a :: r ↔ x ∈ a' :: r') : cm a r = cm a' r' := by
  have h1 : ∀ n, all_ (a :: r) n ↔ all_ (a' :: r') n := by
    intro n
    unfold all_
    constructor
    · rintro ⟨h1, h2⟩; exact ⟨fun x hx => h1 x ((h x).2 hx), fun x hx y hy => h2 x ((h x).2 hx) y ((h y).2 hy)⟩
    · rintro ⟨h1, h2⟩; exact ⟨fun x hx => h1 x ((h x).1 hx), fun x hx y hy => h2 x ((h x).1 hx) y ((h y).1 hy)⟩
  have e1 := (le_cm_all a' r' (cm a r)).2 ((h1 _).1 ((le_cm_all a r _).1 (Nat.le_refl _)))
  have e2 := (le_cm_all a r (cm a' r')).2 ((h1 _).2 ((le_cm_all a' r' _).1 (Nat.le_refl _)))
  omega
theorem three_main (a b c : List ByteArray) (ha : a.length ≤ 60) (hb : b.length ≤ 60) (hc : c.length ≤ 60) : Ev (fun k => watchmanlaw23_LogThree.j0 k a b c false) true := by
  refine Ev.step (fun k => by rw [watchmanlaw23_LogThree.j0]) ?_
  refine ev_neg (by decide) ?_
  refine Ev.bind (common_ev a [b, c] (by omega) (by simp)) ?_
  refine Ev.bind joined_ev ?_
  refine ev_pos rfl ?_
  refine Ev.bind (common_ev a [b] (by omega) (by simp)) ?_
  refine Ev.bind (common_ev a [c] (by omega) (by simp)) ?_
  have hn := (le_cm a [b, c] (cm a [b, c])).1 (Nat.le_refl _)
  have hcp := (le_cp (ks a) (ks c) (cm a [b, c])).1 (hn.2 c (by simp))
  rw [ks_len, ks_len] at hcp
  refine ev_pos ?_ ?_
  · rw [cm_two, cm_two]
    have h2 := (le_cm a [b, c] (min (cp (ks a) (ks b)) (cp (ks a) (ks c)))).2 ⟨by
      have := ((le_cp (ks a) (ks b) _).1 (Nat.le_refl _)).1
      rw [ks_len] at this
      omega, by simp; omega⟩
    have h3 := hn.2 b (by simp)
    have h4 := hn.2 c (by simp)
    unfold mn
    omega
  refine Ev.bind (common_ev c [a, b] (by omega) (by simp)) ?_
  refine ev_pos ?_ ?_
  · rw [cm_same a c [b, c] [a, b] (by intro x; simp only [List.mem_cons, List.not_mem_nil, or_false]; constructor <;> (rintro (h | h | h) <;> simp [h]))]
  refine Ev.bind (common_ev b [c, a, b] (by omega) (by simp)) ?_
  refine ev_pos ?_ ?_
  · rw [cm_same a b [b, c] [c, a, b] (by
      intro x; simp only [List.mem_cons, List.not_mem_nil, or_false]
      constructor
      · rintro (h | h | h) <;> simp [h]
      · rintro (h | h | h | h) <;> simp [h])]
  generalize cm a [b, c] = n at hn hcp
  have e : mn (n : Int) (a.length : Int) = (n : Int) := by unfold mn; omega
  rw [e]
  refine ev_pos (by omega) ?_
  refine ev_pos (by omega) ?_
  refine Ev.bind (front_ev (a.take n) c (by rw [List.length_take]; omega)) ?_
  have : pre (a.take n) c = true := by
    rw [pre_iff, ks_take, List.length_take, Nat.min_eq_left (by omega)]
    exact hcp.2.2
  rw [this]
  exact Ev.now _
theorem LogThree_pure : watchmanlaw23_LogThree.Pure := by
  intro a b c ha _ hb _ hc _
  refine Ev.rounds ?_
  unfold watchmanlaw23_LogThree.f
  have hyes : Ev (fun k => watchmanlaw23_LogThree.j0 k a b c true) true := by
    refine Ev.step (fun k => by rw [watchmanlaw23_LogThree.j0]) ?_
    exact ev_pos rfl (Ev.now _)
  obtain ⟨x, h1, h1'⟩ := far_ev a (by omega)
  obtain ⟨y, h2, h2'⟩ := far_ev b (by omega)
  obtain ⟨z, h3, h3'⟩ := far_ev c (by omega)
  refine Ev.bind h1 ?_
  cases x with
  | true => exact ev_pos rfl hyes
  | false =>
    refine ev_neg (by decide) ?_
    refine Ev.bind h2 ?_
    cases y with
    | true => exact ev_pos rfl hyes
    | false =>
      refine ev_neg (by decide) ?_
      refine Ev.bind h3 ?_
      cases z with
      | true => exact hyes
      | false => exact three_main a b c (h1' rfl) (h2' rfl) (h3' rfl)
end Go.Proofs.Ytncoccpgdgdknaa.F
