/- The pure statement of PostKeeps: what is sent is behind all others; the others are as they were; as many are lost as are told. -/
import Derived.Test.YtofbkpdpgmjllaaPoS
import Derived.Test.YtofbkpdpgmjllaaQPostKeeps
set_option linter.unusedVariables false
set_option linter.unusedSimpArgs false
namespace Go.Proofs.Ytofbkpdpgmjllaa.F
open Go.RowKit Go.Proofs.YtofbkpdpgmjllaaW.PrintWords Go.Proofs.YtofbkpdpgmjllaaW.PrintLast
theorem keeps_l1 (f t n n' : Int) (l l' : List Le) (ss : List ByteArray) (i : Int) (x : Le) (hb : l.length < 4611686018427387904) (r : Bool) (hgo : Ev (fun k => watchmanlaw21_PostKeeps.l0 k f t ss (wrap64 (i + 1)) n l n' l') r) :
    ∀ (d j : Nat) (q : Bool), j + d = l.length → (q = true ∨ x ∈ l.drop j) → Ev (fun k => watchmanlaw21_PostKeeps.l1 k f t ss i q (j : Int) n l n' l' x.f0 x.f1 x.f2 x.f3) r := by
  intro d
  induction d with
  | zero =>
    intro j q hj hq
    have hq1 : q = true := by
      rcases hq with h | h
      · exact h
      · rw [List.drop_eq_nil_of_le (by omega)] at h; cases h
    subst hq1
    refine Ev.step (fun k => by rw [watchmanlaw21_PostKeeps.l1]) ?_
    exact ev_neg (by omega) (ev_pos rfl hgo)
  | succ d ih =>
    intro j q hj hq
    have hj2 : j < l.length := by omega
    have e : ((j + 1 : Nat) : Int) = wrap64 ((j : Int) + 1) := by rw [wr1 (by omega) (by omega)]; rfl
    refine Ev.step (fun k => by rw [watchmanlaw21_PostKeeps.l1]) ?_
    refine ev_pos (by omega) ?_
    cases q with
    | true =>
      have h1 := ih (j + 1) true (by omega) (.inl rfl)
      rw [e] at h1
      exact ev_pos rfl h1
    | false =>
      rw [rdL l j hj2]
      refine ev_neg (by decide) (ev_pos (by omega) ?_)
      have hx : x ∈ l.drop j := by rcases hq with h | h; · cases h
                                   · exact h
      rw [List.drop_eq_getElem_cons hj2] at hx
      have h1 := ih (j + 1) (l[j].f0 == x.f0 && (l[j].f1 == x.f1 && (l[j].f2 == x.f2 && (l[j].f3.toList == x.f3.toList)))) (by omega) (by
        rcases List.mem_cons.1 hx with rfl | h
        · exact .inl (by simp)
        · exact .inr h)
      rw [e] at h1
      exact h1
theorem keeps_l0 (f t n n' : Int) (l l' : List Le) (ss : List ByteArray) (k0 : Int) (hI : SendI f t n l ss ss.length n' l' k0) (hw : IsP n l) (hss : ss.length < 1000000000) :
    ∀ (d i : Nat), i + d = l'.length → Ev (fun k => watchmanlaw21_PostKeeps.l0 k f t ss (i : Int) n l n' l') true := by
  have hlen := hI.is.2.2.1
  have hlen0 := hw.2.2.1
  intro d
  induction d with
  | zero =>
    intro i hi
    refine Ev.step (fun k => by rw [watchmanlaw21_PostKeeps.l0]) ?_
    exact ev_neg (by omega) (Ev.bind posted_ev (Ev.now _))
  | succ d ih =>
    intro i hi
    have hi2 : i < l'.length := by omega
    have h1 := ih (i + 1) (by omega)
    have e : ((i + 1 : Nat) : Int) = wrap64 ((i : Int) + 1) := by rw [wr1 (by omega) (by omega)]; rfl
    rw [e] at h1
    refine Ev.step (fun k => by rw [watchmanlaw21_PostKeeps.l0]) ?_
    refine ev_pos (by omega) (ev_pos (by omega) ?_)
    rw [rdL l' i hi2]
    have hok := hI.is.2.2.2.1 _ (List.getElem_mem hi2)
    have hn1 := hI.is.2.1
    have hn0 := hw.1
    rcases hI.mem _ (List.getElem_mem hi2) with ⟨hlt, hm⟩ | ⟨hge, e1, e2, hb, e3⟩
    · refine ev_neg (by omega) ?_
      exact keeps_l1 f t n n' l l' ss (i : Int) l'[i] (by omega) true h1 l.length 0 false (by omega) (.inr (by rw [List.drop_zero]; exact hm))
    · obtain ⟨h2, h3, _⟩ := hok
      have ew : wrap64 (l'[i].f0 - n) = ((l'[i].f0 - n).toNat : Int) := by rw [wrs (by omega) (by omega)]; omega
      refine ev_pos hge (ev_pos e1 (ev_pos e2 (ev_pos (by rw [ew]; omega) (ev_pos (by rw [ew]; omega) ?_))))
      rw [ew, rdB ss _ hb, e3]
      refine Ev.step (fun k => by rw [watchmanlaw21_PostKeeps.j2]) ?_
      exact ev_neg (by simp) h1
theorem PostKeeps_pure : watchmanlaw21_PostKeeps.Pure := by
  intro n l f t ss _ hl _ _ _ hs _
  refine Ev.rounds ?_
  unfold watchmanlaw21_PostKeeps.f
  obtain ⟨b, f1, f2⟩ := far_ev l n ss (by omega) (by omega)
  cases b with
  | true => exact Ev.bind f1 (ev_pos rfl (Ev.now _))
  | false =>
    obtain ⟨hlen, hss⟩ := f2 rfl
    refine Ev.bind f1 (ev_neg (by decide) ?_)
    obtain ⟨r, t1, t2⟩ := send_ev n l f t ss (by omega)
    rcases t2 with ⟨hw, rfl⟩ | ⟨hw, hn, rfl⟩ | ⟨hw, hn, h0, hI, hr⟩
    · exact Ev.bind t1 (ev_neg (by decide) (Ev.bind posted_ev (ev_pos rfl (ev_pos rfl (Ev.now _)))))
    · exact Ev.bind t1 (ev_neg (by decide) (Ev.bind posted_ev (ev_pos rfl (ev_pos rfl (Ev.now _)))))
    · have hl2 := hI.is.2.2.1
      refine Ev.bind t1 (ev_pos h0 (Ev.bind (is_yes hI.is) (ev_pos rfl (ev_pos ?_ (ev_pos ?_ ?_)))))
      · rw [hI.len]
      · rw [hI.nx, wrs (by have := hw.1.1; omega) (by omega)]
      · rw [to_is _ _ _ (by omega), to_is _ _ _ (by omega)]
        simp only [Option.bind_some]
        have hto := hI.tto
        unfold cnt at hto
        refine Ev.step (fun k => by rw [watchmanlaw21_PostKeeps.j0]) ?_
        refine ev_neg ?_ (keeps_l0 f t n r.1 l r.2.1 ss r.2.2.1 hI hw.1 (by omega) r.2.1.length 0 (by omega))
        rw [decide_eq_true_iff]
        unfold mx
        omega
end Go.Proofs.Ytofbkpdpgmjllaa.F
