/- The pure statement of SessionAgain: what was put is answered again; what is less is old, what is more is new; other clients stay. -/
import Derived.Test.YtkhdpmbjjcmooaaU
import Derived.Test.YtkhdpmbjjcmooaaQSessionAgain
namespace Go.Proofs.Ytkhdpmbjjcmooaa.F
open Go.RowKit Go.Proofs.YtkhdpmbjjcmooaaV.PrintWords Go.Proofs.YtkhdpmbjjcmooaaV.PrintLast
theorem SessionAgain_pure : watchmanlaw18_SessionAgain.Pure := by
  intro l id req now a n s other more hl hls _ hreq _ _ _ hs _ _ _
  refine Ev.rounds ?_
  unfold watchmanlaw18_SessionAgain.f
  have hyes : Ev (fun k => watchmanlaw18_SessionAgain.j0 k l id req now other more true a n s) true := by
    refine Ev.step (fun k => by rw [watchmanlaw18_SessionAgain.j0]) ?_
    exact ev_pos rfl (Ev.now _)
  have hls2 : ∀ x ∈ l, x.f3.f2.length < 4611686018427387904 := by
    intro x hx
    have := (hls x hx).2.2.2.2.2.1
    omega
  obtain ⟨b1, h1, h1'⟩ := big_ev l (by omega) hls2
  obtain ⟨b2, h2, h2'⟩ := bigA_ev a n s (by omega)
  refine Ev.bind h1 ?_
  cases b1 with
  | true => exact ev_pos rfl hyes
  | false =>
    refine ev_neg (by decide) ?_
    refine Ev.bind h2 ?_
    cases b2 with
    | true => exact hyes
    | false =>
      obtain ⟨g1, g2⟩ := h1' rfl
      have g3 := h2' rfl
      have hsm : sml l := fun c hc => by have := g2 c hc; omega
      refine Ev.step (fun k => by rw [watchmanlaw18_SessionAgain.j0]) ?_
      refine ev_neg (by decide) ?_
      obtain ⟨r, e1, e2, e3⟩ := put_ev l hsm (by omega) id req now a n s (by omega)
      refine Ev.bind e1 ?_
      by_cases h0 : r.2 = 0
      · refine ev_pos h0 ?_
        obtain ⟨hw, n1, n2, q1, hok, i, hi, hid, q2, q3, hr⟩ := e3 h0
        have hc : (⟨id, req, now, ⟨a, n, s⟩⟩ : Cl).f0 = l[i].f0 := hid.symm
        have hsm2 : sml r.1 := by
          rw [hr]
          intro x hx
          rcases List.mem_or_eq_of_mem_set hx with hx | rfl
          · exact hsm x hx
          · show s.length < _; omega
        have hf : ∀ z, fnd r.1 z = if z = id then some (⟨id, req, now, ⟨a, n, s⟩⟩ : Cl) else fnd l z := fun z => by rw [hr]; exact put_fnd hw.2.1 i hi _ hc z
        have hokc := (okc_iff _).1 (hw.1 _ (List.getElem_mem hi))
        have hw2 : isW r.1 := by
          rw [hr]
          refine put_isW hw i hi _ hc ((okc_iff _).2 ⟨⟨?_, ?_, ?_, q1, n1, n2⟩, hok⟩)
          · show 1 ≤ id; rw [← hid]; exact hokc.1.1
          · show id ≤ 1000000000; rw [← hid]; exact hokc.1.2.1
          · show 0 ≤ req; omega
        have w1 : wrap64 (req - 1) = req - 1 := wrm (by omega) (by omega)
        have w2 : wrap64 (req + 1) = req + 1 := wr1 (by omega) (by omega)
        have c1 : chk r.1 id req = (a, n, s, 1) := by
          unfold chk; rw [hf id, if_pos rfl]
          show (if req < 1 ∨ req < req then _ else if req = req then _ else _) = _
          rw [if_neg (by omega), if_pos rfl]
        have c2 : chk r.1 id (req - 1) = (0, 0, [], 2) := by
          unfold chk; rw [hf id, if_pos rfl]
          show (if req - 1 < 1 ∨ req - 1 < req then _ else _) = _
          rw [if_pos (by omega)]
        have c3 : chk r.1 id (req + 1) = (0, 0, [], 0) := by
          unfold chk; rw [hf id, if_pos rfl]
          show (if req + 1 < 1 ∨ req + 1 < req then _ else if req + 1 = req then _ else _) = _
          rw [if_neg (by omega), if_neg (by omega)]
        have k1 := check_ev r.1 hsm2 id req
        have k2 := check_ev r.1 hsm2 id (wrap64 (req - 1))
        have k3 := check_ev r.1 hsm2 id (wrap64 (req + 1))
        have k4 := check_ev l hsm other more
        have k5 := check_ev r.1 hsm2 other more
        rw [c1] at k1
        rw [w1, c2] at k2
        rw [w2, c3] at k3
        rw [w1, w2]
        refine Ev.bind k1 (Ev.bind k2 (Ev.bind k3 (Ev.bind k4 (Ev.bind k5 (Ev.bind asked_ev ?_)))))
        refine ev_pos rfl (ev_pos rfl ?_)
        refine Ev.bind (same_ev a n s (by omega)) ?_
        refine ev_pos rfl (ev_pos rfl (ev_pos rfl ?_))
        refine Ev.bind (is_yes r.1 hw2) ?_
        refine ev_pos rfl (ev_pos (by rw [hr, List.length_set]) ?_)
        by_cases ho : other = id
        · exact ev_pos ho (Ev.now _)
        · refine ev_neg ho ?_
          have e : chk r.1 other more = chk l other more := by
            unfold chk; rw [hf other, if_neg ho]
          rw [e]
          refine ev_pos rfl ?_
          refine Ev.bind (same_ev _ _ _ ?_) (Ev.now _)
          unfold chk
          cases hz : fnd l other with
          | none => exact (show 0 < 9223372036854775807 by decide)
          | some y =>
            have := hsm y (fnd_some hz).1
            simp only
            split
            · exact (show 0 < 9223372036854775807 by decide)
            · split
              · show y.f3.f2.length < _; omega
              · exact (show 0 < 9223372036854775807 by decide)
      · refine ev_neg h0 ?_
        refine Ev.bind asked_ev ?_
        refine ev_pos rfl ?_
        rcases e2 with e2 | e2
        · exact absurd e2 h0
        · rw [e2]; exact Ev.now _
end Go.Proofs.Ytkhdpmbjjcmooaa.F
