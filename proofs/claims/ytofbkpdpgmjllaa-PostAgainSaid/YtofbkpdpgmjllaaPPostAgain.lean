/- The pure statement of PostAgain: a letter that is sent again is there once more, behind all others, with a No of its own. -/
import Derived.Test.YtofbkpdpgmjllaaPoS
import Derived.Test.YtofbkpdpgmjllaaQPostAgain
set_option linter.unusedVariables false
set_option linter.unusedSimpArgs false
namespace Go.Proofs.Ytofbkpdpgmjllaa.F
open Go.RowKit Go.Proofs.YtofbkpdpgmjllaaW.PrintWords Go.Proofs.YtofbkpdpgmjllaaW.PrintLast
theorem bodies_one (n : Int) (l : List Le) (hw : IsP n l) (i : Nat) (hi : i < l.length) : okS n l l[i].f1 l[i].f2 [l[i].f3] := by
  obtain ⟨_, _, h3, h4, h5⟩ := hw.2.2.2.1 _ (List.getElem_mem hi)
  exact ⟨hw, h3, h4, fun s hs => by rw [List.mem_singleton] at hs; rw [hs]; exact h5⟩
theorem PostAgain_pure : watchmanlaw21_PostAgain.Pure := by
  intro n l a _ hl _ _
  refine Ev.rounds ?_
  unfold watchmanlaw21_PostAgain.f
  obtain ⟨b, f1, f2⟩ := far_ev l n [] (by omega) (by simp)
  have low : ∀ (e f : Int) (k0 : Int) (y0 y1 y2 y4 : Int) (y3 : ByteArray) (l' : List Le), (e = f ∨ f = 2) → Ev (fun k => watchmanlaw21_PostAgain.j0 k e k0 f true n l y0 y1 y2 y3 y4 l') true := fun e f k0 y0 y1 y2 y4 y3 l' h => by
    refine Ev.step (fun k => by rw [watchmanlaw21_PostAgain.j0]) ?_
    refine ev_pos rfl (Ev.bind posted_ev (ev_pos rfl ?_))
    by_cases hef : e = f
    · exact ev_pos hef (Ev.now _)
    · refine ev_neg hef ?_
      rw [h.resolve_left hef]
      exact Ev.now _
  cases b with
  | true => exact Ev.bind f1 (ev_pos rfl (Ev.now _))
  | false =>
    have hlen := (f2 rfl).1
    refine Ev.bind f1 (ev_neg (by decide) ?_)
    obtain ⟨r, t1, t2⟩ := take_ev n l a (by omega)
    obtain ⟨q, q1, q2⟩ := find_ev n l a (by omega)
    rcases t2 with ⟨hw, rfl⟩ | ⟨hw, hn, rfl⟩ | ⟨hw, i, hi, ha, rfl⟩
    · have hq : q = (0, 1) := by
        rcases q2 with ⟨_, h⟩ | ⟨h, _⟩ | ⟨h, _⟩
        · exact h
        · exact absurd h hw
        · exact absurd h hw
      subst hq
      have ag : Ev (fun k => post_Again.f k n l a) (0, [], 0, 1) := by
        unfold post_Again.f
        exact Ev.bind q1 (ev_neg (by decide) (Ev.now _))
      exact Ev.bind t1 (Ev.bind ag (ev_neg (by decide) (low 1 1 _ _ _ _ _ _ _ (.inl rfl))))
    · have hq : q = (0, 80) := by
        rcases q2 with ⟨h, _⟩ | ⟨_, _, h⟩ | ⟨_, j, hj, h, _⟩
        · exact absurd hw h
        · exact h
        · exact absurd h (hn _ (List.getElem_mem hj))
      subst hq
      have ag : Ev (fun k => post_Again.f k n l a) (0, [], 0, 80) := by
        unfold post_Again.f
        exact Ev.bind q1 (ev_neg (by decide) (Ev.now _))
      exact Ev.bind t1 (Ev.bind ag (ev_neg (by decide) (low 80 80 _ _ _ _ _ _ _ (.inl rfl))))
    · have hq : q = ((i : Int), 0) := by
        rcases q2 with ⟨h, _⟩ | ⟨_, h, _⟩ | ⟨_, j, hj, h, h2⟩
        · exact absurd hw h
        · exact absurd ha (h _ (List.getElem_mem hi))
        · have : j = i := Classical.byContradiction fun hne => hw.ne hj hi hne (by rw [h, ha])
          subst this; exact h2
      subst hq
      obtain ⟨s, s1, s2⟩ := send_ev n l l[i].f1 l[i].f2 [l[i].f3] (by omega)
      have ag : Ev (fun k => post_Again.f k n l a) s := by
        unfold post_Again.f
        refine Ev.bind q1 (ev_pos rfl (ev_pos (by simp only; omega) (ev_pos (by simp only; omega) ?_)))
        simp only [rdL l i hi]
        exact Ev.bind s1 (Ev.now _)
      refine Ev.bind t1 (Ev.bind ag (ev_pos rfl ?_))
      have hl200 := hw.2.2.1
      rcases s2 with ⟨h, _⟩ | ⟨_, _, rfl⟩ | ⟨hok, hn1, h0, hI, hr⟩
      · exact absurd (bodies_one n l hw i hi) h
      · exact low 0 2 _ _ _ _ _ _ _ (.inr rfl)
      · have hx : (s.2.2.2 != 0) = false := by rw [h0]; rfl
        rw [hx]
        have hnx := hI.nx
        simp only [List.length_singleton] at hnx hn1
        have hln := hI.len
        simp only [List.length_singleton] at hln
        have hl2 := hI.is.2.2.1
        have ex : s.1 = wrap64 (n + 1) := by rw [wrs (by have := hw.1; omega) (by omega), hnx]; rfl
        have ex2 : (s.1 != wrap64 (n + 1)) = false := by rw [ex]; simp
        refine Ev.step (fun k => by rw [watchmanlaw21_PostAgain.j0]) ?_
        refine ev_neg (by decide) (ev_pos (by rw [hln]; rfl) ?_)
        rw [ex2]
        refine Ev.step (fun k => by rw [watchmanlaw21_PostAgain.j1]) ?_
        refine ev_neg (by decide) ?_
        -- what lies at the end
        obtain ⟨s0, sl, sk, se⟩ := s
        simp only at hI hln hl2 ex ⊢
        have r1 := roomL_len l[i].f2 l
        have r2 := roomL_cnt l[i].f2 l
        by_cases h200 : (roomL l[i].f2 l).length < 200
        · have esl : sl = roomL l[i].f2 l ++ [⟨n, l[i].f1, l[i].f2, l[i].f3⟩] := by
            have h := congrArg (fun z => z.2.1) hr
            simp only [sendL] at h
            rw [h, if_pos h200]
          subst esl
          have ew : wrap64 (((roomL l[i].f2 l ++ [⟨n, l[i].f1, l[i].f2, l[i].f3⟩] : List Le).length : Int) - 1) = ((roomL l[i].f2 l).length : Int) := by
            rw [wrs (by omega) (by omega), List.length_append, List.length_singleton]; omega
          have er : rd_T35 (roomL l[i].f2 l ++ [⟨n, l[i].f1, l[i].f2, l[i].f3⟩]) ((roomL l[i].f2 l).length : Int) = ⟨n, l[i].f1, l[i].f2, l[i].f3⟩ := by
            rw [rdL _ _ (by rw [List.length_append, List.length_singleton]; omega)]
            simp
          refine ev_neg (by rw [List.length_append, List.length_singleton]; omega) (ev_pos (by rw [ew]; omega) (ev_pos (by rw [ew, List.length_append, List.length_singleton]; omega) ?_))
          rw [ew, er]
          simp only [bne_self_eq_false]
          refine Ev.step (fun k => by rw [watchmanlaw21_PostAgain.j2]) ?_
          refine ev_neg (by decide) (ev_pos (by rw [ew]; omega) (ev_pos (by rw [ew, List.length_append, List.length_singleton]; omega) ?_))
          rw [ew, er, to_is _ _ _ (by omega), to_is _ _ _ (by omega)]
          simp only [Option.bind_some]
          refine Ev.bind posted_ev (ev_pos rfl (ev_pos trivial (ev_pos trivial (ev_pos trivial ?_))))
          have hto := hI.tto
          unfold cnt at hto
          refine Ev.congr (g := fun _ => _) (f := fun _ => some true) (fun k => ?_) (Ev.now _)
          rw [decide_eq_true]
          unfold mx
          omega
        · have esl : sl = roomL l[i].f2 l := by
            have h := congrArg (fun z => z.2.1) hr
            simp only [sendL] at h
            rw [h, if_neg h200]
          subst esl
          have hall : (l.length : Int) = 200 := by omega
          have fin : ∀ x11 : Int, Ev (fun k => watchmanlaw21_PostAgain.j2 k x11 true n l l[i].f0 l[i].f1 l[i].f2 l[i].f3 s0 (roomL l[i].f2 l)) true := fun x11 => by
            refine Ev.step (fun k => by rw [watchmanlaw21_PostAgain.j2]) ?_
            refine ev_pos rfl (Ev.bind posted_ev (ev_pos rfl ?_))
            rw [hall]
            exact Ev.now _
          have hpos : 0 < (roomL l[i].f2 l).length := by omega
          have ew : wrap64 (((roomL l[i].f2 l).length : Int) - 1) = (((roomL l[i].f2 l).length - 1 : Nat) : Int) := by
            rw [wrs (by omega) (by omega)]; omega
          refine ev_neg (by omega) (ev_pos (by rw [ew]; omega) (ev_pos (by rw [ew]; omega) ?_))
          rw [ew, rdL _ _ (by omega)]
          have hlt : ((roomL l[i].f2 l)[(roomL l[i].f2 l).length - 1]'(by omega)).f0 ≠ n := by
            have h1 := (hw.sub (roomL_sub l[i].f2 l)).2.2.2.1 _ (List.getElem_mem (by omega : (roomL l[i].f2 l).length - 1 < (roomL l[i].f2 l).length))
            have := h1.2.1; omega
          have hx2 : (((roomL l[i].f2 l)[(roomL l[i].f2 l).length - 1]'(by omega)).f0 != n) = true := bne_iff_ne.2 hlt
          rw [hx2]
          exact fin _
end Go.Proofs.Ytofbkpdpgmjllaa.F
