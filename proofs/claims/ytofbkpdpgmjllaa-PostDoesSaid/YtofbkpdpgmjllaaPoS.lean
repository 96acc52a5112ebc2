/- What Send comes to, and what of it the laws of chapter 21 lean on. No condition but sizes. -/
import Derived.Test.YtofbkpdpgmjllaaPo
import Derived.Test.YtofbkpdpgmjllaaF16
set_option linter.unusedVariables false
set_option linter.unusedSimpArgs false
namespace Go.Proofs.Ytofbkpdpgmjllaa.F
open Go.RowKit Go.Proofs.YtofbkpdpgmjllaaV.PrintWords Go.Proofs.YtofbkpdpgmjllaaV.PrintLast

theorem IsP.snoc {n f t : Int} {l : List Le} {s : ByteArray} (h : IsP n l) (hl : l.length < 200) (hn : n + 1 ≤ 1000000000) (hf : 0 ≤ f ∧ f ≤ 20) (ht : 0 ≤ t ∧ t ≤ 20) (hs : s.size ≤ 2000) : IsP (n + 1) (l ++ [⟨n, f, t, s⟩]) := by
  obtain ⟨h1, h2, h3, h4, h5⟩ := h
  refine ⟨by omega, hn, by rw [List.length_append, List.length_singleton]; omega, fun x hx => ?_, ?_⟩
  · rcases List.mem_append.1 hx with hx | hx
    · have := h4 x hx; unfold okL at this ⊢; omega
    · rw [List.mem_singleton] at hx; subst hx
      exact ⟨h1, by show n < n + 1; omega, hf, ht, hs⟩
  · rw [List.pairwise_append]
    refine ⟨h5, by simp, fun a ha b hb => ?_⟩
    rw [List.mem_singleton] at hb; subst hb
    exact (h4 a ha).2.1
theorem IsP.succ {n : Int} {l : List Le} (h : IsP n l) (hn : n + 1 ≤ 1000000000) : IsP (n + 1) l :=
  ⟨by have := h.1; omega, hn, h.2.2.1, fun x hx => by have := h.2.2.2.1 x hx; unfold okL at this ⊢; omega, h.2.2.2.2⟩
/-- What the letters of a Send come to. l0: those that were there; n0: the first new No; bs: all bodies; j of them have been sent. -/
structure SendI (f t n0 : Int) (l0 : List Le) (bs : List ByteArray) (j : Nat) (n : Int) (l : List Le) (k : Int) : Prop where
  is : IsP n l
  nx : n = n0 + j
  len : (l.length : Int) + k = l0.length + j
  k0 : 0 ≤ k ∧ k ≤ l0.length + j
  tto : cnt t l ≤ max 20 (cnt t l0)
  mem : ∀ x ∈ l, (x.f0 < n0 ∧ x ∈ l0) ∨ (n0 ≤ x.f0 ∧ x.f1 = f ∧ x.f2 = t ∧ ∃ h : (x.f0 - n0).toNat < bs.length, bs[(x.f0 - n0).toNat] = x.f3)
theorem sendL_is (f t n0 : Int) (l0 : List Le) (bs : List ByteArray) (hn0 : 0 ≤ n0) (hf : 0 ≤ f ∧ f ≤ 20) (ht : 0 ≤ t ∧ t ≤ 20) (hb : ∀ s ∈ bs, s.size ≤ 2000) (hn : n0 + bs.length ≤ 1000000000) (hl0 : l0.length ≤ 200) :
    ∀ (d j : Nat) (n : Int) (l : List Le) (k : Int), j + d = bs.length → SendI f t n0 l0 bs j n l k → SendI f t n0 l0 bs bs.length (sendL f t n l k (bs.drop j)).1 (sendL f t n l k (bs.drop j)).2.1 (sendL f t n l k (bs.drop j)).2.2 := by
  intro d
  induction d with
  | zero =>
    intro j n l k hj h
    rw [List.drop_eq_nil_of_le (by omega)]
    obtain rfl : j = bs.length := by omega
    exact h
  | succ d ih =>
    intro j n l k hj h
    have hjl : j < bs.length := by omega
    rw [List.drop_eq_getElem_cons hjl]
    unfold sendL
    obtain ⟨h1, h2, h3, h4, h5, h6⟩ := h
    have r1 := roomL_len t l
    have r2 := roomL_cnt t l
    have r3 := roomL_sub t l
    have hl := h1.2.2.1
    have e1 : wrap64 (n + 1) = n + 1 := wrs (by omega) (by omega)
    have e2 : wrap64 (k + (roomN t l : Int)) = k + roomN t l := wrs (by omega) (by omega)
    have e3 : wrap64 (k + (roomN t l : Int) + 1) = k + roomN t l + 1 := wrs (by omega) (by omega)
    have hm : ∀ x ∈ roomL t l, (x.f0 < n0 ∧ x ∈ l0) ∨ (n0 ≤ x.f0 ∧ x.f1 = f ∧ x.f2 = t ∧ ∃ h : (x.f0 - n0).toNat < bs.length, bs[(x.f0 - n0).toNat] = x.f3) := fun x hx => h6 x (r3.subset hx)
    rw [e1, e2, e3]
    split
    · rename_i hlt
      refine ih (j + 1) _ _ _ (by omega) ⟨(h1.sub r3).snoc hlt (by omega) hf ht (hb _ (List.getElem_mem hjl)), by omega, by rw [List.length_append, List.length_singleton]; omega, by omega, by have := cnt_snoc t (roomL t l) ⟨n, f, t, bs[j]⟩; omega, fun x hx => ?_⟩
      rcases List.mem_append.1 hx with hx | hx
      · exact hm x hx
      · rw [List.mem_singleton] at hx; subst hx
        have e : ((n : Int) - n0).toNat = j := by omega
        refine .inr ⟨by show n0 ≤ n; omega, rfl, rfl, ?_⟩
        show ∃ h : (n - n0).toNat < bs.length, bs[(n - n0).toNat] = bs[j]
        simp only [e]; exact ⟨hjl, trivial⟩
    · refine ih (j + 1) _ _ _ (by omega) ⟨(h1.sub r3).succ (by omega), by omega, by omega, by omega, by omega, hm⟩
def okS (n : Int) (l : List Le) (f t : Int) (ss : List ByteArray) : Prop := IsP n l ∧ (0 ≤ f ∧ f ≤ 20) ∧ (0 ≤ t ∧ t ≤ 20) ∧ ∀ s ∈ ss, s.size ≤ 2000
theorem longB_iff (ss : List ByteArray) : longB ss = false ↔ ∀ s ∈ ss, s.size ≤ 2000 := by
  unfold longB
  rw [List.any_eq_false]
  constructor
  · intro h s hs; have := h s hs; rw [decide_eq_true_iff] at this; omega
  · intro h s hs; have := h s hs; rw [decide_eq_true_iff]; omega
/-- What Send answers. -/
def SendIs (n : Int) (l : List Le) (f t : Int) (ss : List ByteArray) (r : Int × List Le × Int × Int) : Prop :=
  (¬ okS n l f t ss ∧ r = (0, [], 0, 1)) ∨ (okS n l f t ss ∧ n + ss.length > 1000000000 ∧ r = (0, [], 0, 2)) ∨
    (okS n l f t ss ∧ n + ss.length ≤ 1000000000 ∧ r.2.2.2 = 0 ∧ SendI f t n l ss ss.length r.1 r.2.1 r.2.2.1 ∧ r = ((sendL f t n l 0 ss).1, (sendL f t n l 0 ss).2.1, (sendL f t n l 0 ss).2.2, 0))
theorem send_ev (n : Int) (l : List Le) (f t : Int) (ss : List ByteArray) (hl : l.length < 1099511627776) : ∃ r, Ev (fun k => post_Send.f k n l f t ss) r ∧ SendIs n l f t ss r := by
  obtain ⟨b, h1, h2⟩ := is_ev n l (by omega)
  refine ⟨sendR b n l f t ss, ?_, ?_⟩
  · unfold post_Send.f
    refine Ev.bind h1 ?_
    exact ev_pos hl (Ev.now _)
  · by_cases hg : b = true ∧ whoB f = true ∧ whoB t = true ∧ longB ss = false
    · have hok : okS n l f t ss := ⟨h2.1 hg.1, (whoB_iff f).1 hg.2.1, (whoB_iff t).1 hg.2.2.1, (longB_iff ss).1 hg.2.2.2⟩
      unfold sendR
      rw [if_pos hg]
      by_cases hc : n > 1000000000 - (ss.length : Int)
      · rw [if_pos hc]
        exact .inr (.inl ⟨hok, by omega, rfl⟩)
      · rw [if_neg hc]
        refine .inr (.inr ⟨hok, by omega, rfl, ?_, rfl⟩)
        have := sendL_is f t n l ss hok.1.1 hok.2.1 hok.2.2.1 hok.2.2.2 (by omega) hok.1.2.2.1 ss.length 0 n l 0 (by omega)
          ⟨hok.1, by omega, by omega, by omega, by omega, fun x hx => .inl ⟨(hok.1.2.2.2.1 x hx).2.1, hx⟩⟩
        rw [List.drop_zero] at this
        exact this
    · have hno : ¬ okS n l f t ss := fun h => hg ⟨h2.2 h.1, (whoB_iff f).2 h.2.1, (whoB_iff t).2 h.2.2.1, (longB_iff ss).2 h.2.2.2⟩
      refine .inl ⟨hno, ?_⟩
      unfold sendR
      rw [if_neg hg]
theorem to_is (n : Int) (l : List Le) (t : Int) (hl : l.length < 1099511627776) : post_To.f n l t = some (l.filter (toP t)) := by
  unfold post_To.f; rw [if_pos hl]
end Go.Proofs.Ytofbkpdpgmjllaa.F
