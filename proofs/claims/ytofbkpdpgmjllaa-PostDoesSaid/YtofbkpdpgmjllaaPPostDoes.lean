/- The pure statement of PostDoes: the program answers as the document does, and what came in stays. -/
import Derived.Test.YtofbkpdpgmjllaaPoR
import Derived.Test.YtofbkpdpgmjllaaQPostDoes
set_option linter.unusedVariables false
set_option linter.unusedSimpArgs false
namespace Go.Proofs.Ytofbkpdpgmjllaa.F
open Go.RowKit Go.Proofs.YtofbkpdpgmjllaaV.PrintWords Go.Proofs.YtofbkpdpgmjllaaV.PrintLast
theorem smudge_l0 : ∀ (d i : Nat) (l : List Le), l.length < 4611686018427387904 → i + d = l.length → ∃ r, Ev (fun k => watchmanlaw21_smudge.l0 k l (i : Int)) r := by
  intro d
  induction d with
  | zero =>
    intro i l hb hi
    refine ⟨l, Ev.step (fun k => by rw [watchmanlaw21_smudge.l0]) ?_⟩
    exact ev_neg (by omega) (Ev.now _)
  | succ d ih =>
    intro i l hb hi
    obtain ⟨r, h⟩ := ih (i + 1) (l.set ((i : Int)).toNat (⟨(rd_T35 l (i : Int)).f0, (rd_T35 l (i : Int)).f1, (rd_T35 l (i : Int)).f2, (⟨#[115, 109, 117, 100, 103, 101]⟩ : ByteArray)⟩ : Le)) (by rw [List.length_set]; exact hb) (by rw [List.length_set]; omega)
    rw [up1 i (by omega)] at h
    refine ⟨r, Ev.step (fun k => by rw [watchmanlaw21_smudge.l0]) ?_⟩
    exact ev_pos (by omega) (ev_pos (by omega) h)
theorem smudge_ev (l : List Le) (h : l.length ≤ 1000) : ∃ r, Ev (fun k => watchmanlaw21_smudge.f k l) r := by
  unfold watchmanlaw21_smudge.f
  exact smudge_l0 l.length 0 l (by omega) (by omega)
theorem taken_len {n : Int} {l : List Le} {a : Int} {r : Int × List Le × Int × Int × Int × ByteArray × Int} (hl : l.length ≤ 1000) (hr : TakeIs n l a r) : r.2.1.length ≤ 1000 := by
  rcases hr with ⟨_, rfl⟩ | ⟨_, _, rfl⟩ | ⟨_, i, hi, _, rfl⟩
  · exact Nat.zero_le _
  · exact Nat.zero_le _
  · exact Nat.le_trans (List.length_eraseIdx_le _ _) hl
theorem PostDoes_pure : watchmanlaw21_PostDoes.Pure := by
  intro n l f t a ss ks _ hl _ _ _ _ hs _ hk _
  refine Ev.rounds ?_
  unfold watchmanlaw21_PostDoes.f
  obtain ⟨b, f1, f2⟩ := far_ev l n ss (by omega) (by omega)
  have yes : Ev (fun k => watchmanlaw21_PostDoes.j0 k f t a ss ks true n l) true := by
    refine Ev.step (fun k => by rw [watchmanlaw21_PostDoes.j0]) ?_
    exact ev_pos rfl (Ev.now _)
  cases b with
  | true => exact Ev.bind f1 (ev_pos rfl yes)
  | false =>
    obtain ⟨hlen, hss⟩ := f2 rfl
    refine Ev.bind f1 (ev_neg Bool.false_ne_true ?_)
    by_cases hk60 : (ks.length : Int) > 60
    · rw [decide_eq_true hk60]; exact yes
    · rw [decide_eq_false hk60]
      refine Ev.step (fun k => by rw [watchmanlaw21_PostDoes.j0]) ?_
      refine ev_neg Bool.false_ne_true ?_
      obtain ⟨s, s1, s2⟩ := send_ev n l f t ss (by omega)
      have s3 := refsend_ev n l f t ss (by omega) hss s2
      obtain ⟨u, u1, u2⟩ := take_ev n l a (by omega)
      have u3 := reftake_ev n l a (by omega) u2
      obtain ⟨g, g1, g2, g3⟩ := again_both n l a (by omega)
      obtain ⟨o, o1, o2, o3⟩ := only_both n l ks (by omega) (by omega)
      have s4 := sent_len s2
      have u4 := taken_len (by omega) u2
      have v := refto_ev n t l (by omega)
      have vl := List.length_filter_le (toP t) l
      have ot : watchmanref01_OwnTexts.f ss = some ss := by
        unfold watchmanref01_OwnTexts.f
        rw [if_pos (by simp only [List.length_nil]; omega)]; rfl
      rw [own_is l (by omega), ot, to_is n l t (by omega)]
      simp only [Option.bind_some]
      refine Ev.bind s1 (Ev.bind s3 (Ev.bind u1 (Ev.bind u3 (Ev.bind g1 (Ev.bind g2 (Ev.bind o1 (Ev.bind o2 ?_)))))))
      refine Ev.bind (sames_ev _ _ (by omega)) (ev_pos rfl (ev_pos rfl (ev_pos rfl ?_)))
      refine Ev.bind (sames_ev _ _ (by omega)) (ev_pos rfl (ev_pos (by simp) (ev_pos rfl ?_)))
      refine Ev.bind (sames_ev _ _ (by omega)) (ev_pos rfl (ev_pos rfl (ev_pos rfl ?_)))
      refine Ev.bind (sames_ev _ _ (by omega)) (ev_pos rfl (ev_pos rfl ?_))
      refine Ev.bind v (Ev.bind (same_ev _ (by omega)) ?_)
      refine Ev.step (fun k => by rw [watchmanlaw21_PostDoes.j1]) ?_
      obtain ⟨_, w1⟩ := smudge_ev s.2.1 s4
      obtain ⟨_, w2⟩ := smudge_ev u.2.1 u4
      obtain ⟨_, w3⟩ := smudge_ev g.2.1 g3
      obtain ⟨_, w4⟩ := smudge_ev o.2.1 o3
      obtain ⟨_, w5⟩ := smudge_ev (l.filter (toP t)) (by omega)
      obtain ⟨q, q1, q2⟩ := is_ev n l (by omega)
      have q3 := refis_is n l (by omega) q2
      refine Ev.bind w1 (Ev.bind w2 (Ev.bind w3 (Ev.bind w4 (Ev.bind w5 ?_))))
      refine Ev.bind posted_ev (ev_pos rfl (ev_pos rfl ?_))
      exact Ev.bind q1 (Ev.bind q3 (ev_pos (beq_self_eq_true q) (Ev.bind (sames_ev n l (by omega)) (Ev.now _))))
end Go.Proofs.Ytofbkpdpgmjllaa.F
