/- The pure statement of PostTakes: what is taken is not there any more, and all others are. -/
import Derived.Test.YtofbkpdpgmjllaaPo
import Derived.Test.YtofbkpdpgmjllaaQPostTakes
set_option linter.unusedVariables false
set_option linter.unusedSimpArgs false
namespace Go.Proofs.Ytofbkpdpgmjllaa.F
open Go.RowKit Go.Proofs.YtofbkpdpgmjllaaW.PrintWords Go.Proofs.YtofbkpdpgmjllaaW.PrintLast
theorem takes_l0 (n a : Int) (l : List Le) (hw : IsP n l) (i0 : Nat) (h0 : i0 < l.length) (ha : l[i0].f0 = a) :
    ∀ (d i : Nat), i + d = l.length → Ev (fun k => watchmanlaw21_PostTakes.l0 k a 80 (if i ≤ i0 then (i : Int) else (i : Int) - 1) (i : Int) n l n (l.eraseIdx i0) l[i0].f0 l[i0].f1 l[i0].f2 l[i0].f3) true := by
  intro d
  have hlen := hw.2.2.1
  have hel : (l.eraseIdx i0).length = l.length - 1 := List.length_eraseIdx_of_lt h0
  induction d with
  | zero =>
    intro i hi
    refine Ev.step (fun k => by rw [watchmanlaw21_PostTakes.l0]) ?_
    refine ev_neg (by omega) (Ev.bind posted_ev (ev_pos rfl (ev_pos rfl (ev_pos ?_ (ev_pos ha ?_)))))
    · rw [if_neg (by omega), hel]; omega
    · exact Ev.bind (is_yes (hw.sub (List.eraseIdx_sublist _ _))) (Ev.now _)
  | succ d ih =>
    intro i hi
    have hi2 : i < l.length := by omega
    have h1 := ih (i + 1) (by omega)
    have e : ((i + 1 : Nat) : Int) = wrap64 ((i : Int) + 1) := by rw [wr1 (by omega) (by omega)]; rfl
    rw [e] at h1
    refine Ev.step (fun k => by rw [watchmanlaw21_PostTakes.l0]) ?_
    refine ev_pos (by omega) (ev_pos (by omega) ?_)
    rw [rdL l i hi2]
    by_cases hii : i = i0
    · subst hii
      refine ev_pos ha (ev_neg (by simp) ?_)
      rw [if_pos (Nat.le_refl _)]
      rw [if_neg (by omega), ← e] at h1
      rw [← e]
      have e2 : (((i + 1 : Nat) : Int) - 1) = (i : Int) := by omega
      rw [e2] at h1; exact h1
    · refine ev_neg (fun h => hw.ne hi2 h0 hii (by rw [h, ha])) ?_
      obtain ⟨c, hc⟩ : ∃ c : Nat, c = if i ≤ i0 then i else i - 1 := ⟨_, rfl⟩
      have hci : (if i ≤ i0 then (i : Int) else (i : Int) - 1) = (c : Int) := by rw [hc]; split <;> omega
      have hcl : c < (l.eraseIdx i0).length := by rw [hel, hc]; split <;> omega
      have hce : (l.eraseIdx i0)[c] = l[i] := by
        rw [List.getElem_eraseIdx]
        by_cases h2 : i ≤ i0
        · have h3 : c = i := by rw [hc, if_pos h2]
          subst h3
          rw [dif_pos (by omega)]
        · have h3 : c + 1 = i := by rw [hc, if_neg h2]; omega
          rw [dif_neg (by omega)]
          simp only [h3]
      have hcn : (if i + 1 ≤ i0 then wrap64 ((i : Int) + 1) else wrap64 ((i : Int) + 1) - 1) = wrap64 ((c : Int) + 1) := by
        rw [← e, wr1 (by omega) (by omega), hc]; split <;> split <;> omega
      rw [hcn] at h1
      rw [hci]
      refine ev_neg (by omega) (ev_pos (by omega) (ev_pos (by omega) ?_))
      rw [rdL _ c hcl, hce]
      exact ev_neg (by simp) h1
theorem PostTakes_pure : watchmanlaw21_PostTakes.Pure := by
  intro n l a _ hl _ _
  refine Ev.rounds ?_
  unfold watchmanlaw21_PostTakes.f
  obtain ⟨b, f1, f2⟩ := far_ev l n [] (by omega) (by simp)
  cases b with
  | true => exact Ev.bind f1 (ev_pos rfl (Ev.now _))
  | false =>
    have hlen := (f2 rfl).1
    refine Ev.bind f1 (ev_neg (by decide) ?_)
    obtain ⟨r, t1, t2⟩ := take_ev n l a (by omega)
    rcases t2 with ⟨hw, rfl⟩ | ⟨hw, hn, rfl⟩ | ⟨hw, i, hi, ha, rfl⟩
    · obtain ⟨s, u1, u2⟩ := take_ev 0 [] a (by simp)
      obtain ⟨q, q1, q2⟩ := is_ev n l (by omega)
      refine Ev.bind t1 (Ev.bind u1 (ev_neg (by decide) (Ev.bind posted_ev (ev_pos rfl (ev_pos (by kernel_rfl) (Ev.bind q1 ?_))))))
      cases q with
      | true => exact absurd (q2.1 rfl) hw
      | false => exact Ev.now _
    · obtain ⟨s, u1, u2⟩ := take_ev 0 [] a (by simp)
      exact Ev.bind t1 (Ev.bind u1 (ev_neg (by decide) (Ev.bind posted_ev (ev_pos rfl (ev_pos (by kernel_rfl) (Ev.bind (is_yes hw) (Ev.now _)))))))
    · have hq : ∀ x ∈ l.eraseIdx i, x.f0 ≠ a := fun x hx => by
        obtain ⟨j, hj, hji, rfl⟩ := List.mem_eraseIdx_iff_getElem.1 hx
        rw [← ha]; exact hw.ne hj hi hji
      have hs := hw.sub (List.eraseIdx_sublist l i)
      obtain ⟨s, u1, u2⟩ := take_ev n (l.eraseIdx i) a (by have := hs.2.2.1; omega)
      have hs2 : s.2.2.2.2.2.2 = 80 := by
        rcases u2 with ⟨h, _⟩ | ⟨_, _, rfl⟩ | ⟨_, j, hj, h, _⟩
        · exact absurd hs h
        · rfl
        · exact absurd h (hq _ (List.getElem_mem hj))
      refine Ev.bind t1 (Ev.bind u1 (ev_pos rfl ?_))
      rw [hs2]
      have := takes_l0 n a l hw i hi ha l.length 0 (by omega)
      rw [if_pos (Nat.zero_le _)] at this
      exact this
end Go.Proofs.Ytofbkpdpgmjllaa.F
