/- The pure statement of SessionRuns: requests of a client that were let in rise, and the last one is answered as it was, as long as it is known. -/
import Derived.Test.YtkhdpmbjjcmooaaU
import Derived.Test.YtkhdpmbjjcmooaaF15
import Derived.Test.YtkhdpmbjjcmooaaQSessionRuns
namespace Go.Proofs.Ytkhdpmbjjcmooaa.F
open Go.RowKit Go.Proofs.YtkhdpmbjjcmooaaV.PrintWords Go.Proofs.YtkhdpmbjjcmooaaV.PrintLast
abbrev St := S45
theorem rdSt (l : List St) (j : Nat) (h : j < l.length) : rd_T45 l (j : Int) = l[j] := by
  simp [rd_T45, List.getD_eq_getElem?_getD, List.getElem?_eq_getElem h]
theorem sml_of {l : List Cl} (h : isW l) : sml l := by
  intro c hc
  have h1 := ((okc_iff c).1 (h.1 c hc)).2
  unfold oka at h1
  rw [Bool.and_eq_true, decide_eq_true_iff] at h1
  have := h1.1.2.2.2.2
  omega
def RInv (id : Int) (i : Nat) (l : List Cl) (last a n : Int) (s : List ByteArray) : Prop :=
  isW l ∧ (∀ c ∈ l, c.f0 ≤ (i : Int)) ∧ (∀ c, fnd l id = some c → c.f1 = last ∧ c.f3.f0 = a ∧ c.f3.f1 = n ∧ c.f3.f2 = s) ∧ ((i : Int) < id → last = 0 ∧ a = 0 ∧ n = 0 ∧ s = []) ∧ s.length ≤ 40
theorem RInv.next {id : Int} {i : Nat} {l : List Cl} {last a n : Int} {s : List ByteArray} (h : RInv id i l last a n s) : RInv id (i + 1) l last a n s :=
  ⟨h.1, fun c hc => by have := h.2.1 c hc; omega, h.2.2.1, fun hi => h.2.2.2.1 (by omega), h.2.2.2.2⟩
theorem j3_ev (most id : Int) (script : List St) (i : Nat) (l : List Cl) (last a n : Int) (s : List ByteArray) (h : RInv id (i + 1) l last a n s)
    (go : Ev (fun k => watchmanlaw18_SessionRuns.l0 k most script id l last (wrap64 ((i : Int) + 1)) a n s) true) : Ev (fun k => watchmanlaw18_SessionRuns.j3 k most script id l last (i : Int) a n s) true := by
  refine Ev.step (fun k => by rw [watchmanlaw18_SessionRuns.j3]) ?_
  have hs := sml_of h.1
  cases hf : fnd l id with
  | none =>
    rw [find_none hf]
    simp only [Option.bind_some]
    refine ev_neg (by decide) ?_
    refine Ev.bind (is_yes l h.1) ?_
    exact ev_pos rfl go
  | some c =>
    rw [find_some hs hf]
    simp only [Option.bind_some]
    obtain ⟨h1, h2, h3, h4⟩ := h.2.2.1 c hf
    refine ev_pos (by simp) (ev_pos h1 ?_)
    rw [h2, h3, h4]
    refine Ev.bind (same_ev a n s (by have := h.2.2.2.2; omega)) ?_
    refine ev_pos rfl ?_
    refine Ev.bind (is_yes l h.1) ?_
    exact ev_pos rfl go
theorem runs_l0 (most id : Int) (script : List St) (hb : script.length ≤ 100) (hr : ∀ x ∈ script, x.f3.f2.length < 4611686018427387904) : ∀ (d i : Nat) (l : List Cl) (last a n : Int) (s : List ByteArray), i + d = script.length → RInv id i l last a n s →
    Ev (fun k => watchmanlaw18_SessionRuns.l0 k most script id l last (i : Int) a n s) true := by
  intro d
  induction d with
  | zero =>
    intro i l last a n s hi _
    refine Ev.step (fun k => by rw [watchmanlaw18_SessionRuns.l0]) ?_
    refine ev_neg (by omega) ?_
    exact Ev.bind asked_ev (Ev.now _)
  | succ d ih =>
    intro i l last a n s hi hv
    have hi2 : i < script.length := by omega
    have e : ((i + 1 : Nat) : Int) = wrap64 ((i : Int) + 1) := by rw [wr1 (by omega) (by omega)]; rfl
    have ih2 : ∀ l last a n s, RInv id (i + 1) l last a n s → Ev (fun k => watchmanlaw18_SessionRuns.j3 k most script id l last (i : Int) a n s) true := by
      intro l last a n s h
      have := ih (i + 1) l last a n s (by omega) h
      rw [e] at this
      exact j3_ev most id script i l last a n s h this
    have hs := sml_of hv.1
    have hlen : l.length ≤ 30 := hv.1.2.2
    refine Ev.step (fun k => by rw [watchmanlaw18_SessionRuns.l0]) ?_
    refine ev_pos (by omega) (ev_pos (by omega) ?_)
    rw [rdSt script i hi2, wr1 (show (0 : Int) ≤ (i : Int) by omega) (by omega)]
    obtain ⟨b, g1, g2⟩ := bigA_ev script[i].f3.f0 script[i].f3.f1 script[i].f3.f2 (by have := hr _ (List.getElem_mem hi2); omega)
    refine Ev.bind g1 ?_
    cases b with
    | true => exact ev_pos rfl (Ev.now _)
    | false =>
      refine ev_neg (by decide) ?_
      have g3 := g2 rfl
      generalize script[i] = o at g3
      by_cases k1 : o.f0 = 1
      · refine ev_pos k1 ?_
        obtain ⟨r, e1, e2⟩ := open_ev l hs (by omega) most ((i : Int) + 1)
        refine Ev.bind e1 ?_
        have j1 : ∀ l2 : List Cl, RInv id (i + 1) l2 last a n s → Ev (fun k => watchmanlaw18_SessionRuns.j1 k most script id l2 last (i : Int) a n s o.f0 o.f1 o.f2 o.f3.f0 o.f3.f1 o.f3.f2) true := by
          intro l2 h2
          refine Ev.step (fun k => by rw [watchmanlaw18_SessionRuns.j1]) ?_
          exact ev_neg (by omega) (ih2 l2 last a n s h2)
        by_cases h0 : r.2.2 = 0
        · refine ev_pos h0 (j1 r.1 ?_)
          have hw2 := open_isW e2 h0
          obtain ⟨hw, m1, m2, n1, n2, hl, _, l', hrr, hsub, _⟩ := e2.2 h0
          refine ⟨hw2, fun c hc => ?_, fun c hc => ?_, fun h => hv.2.2.2.1 (by omega), hv.2.2.2.2⟩
          · rw [hrr] at hc
            rcases List.mem_append.1 hc with hc | hc
            · have := hv.2.1 c (hsub.subset hc); omega
            · rw [List.mem_singleton.1 hc]; show (i : Int) + 1 ≤ _; omega
          · obtain ⟨f1, f2⟩ := fnd_some hc
            rw [hrr] at f1
            rcases List.mem_append.1 f1 with f1 | f1
            · have := fnd_of hv.1.2.1 (hsub.subset f1)
              rw [f2] at this
              exact hv.2.2.1 c this
            · have ec := List.mem_singleton.1 f1
              rw [ec] at f2
              have : (i : Int) + 1 = id := f2
              obtain ⟨p1, p2, p3, p4⟩ := hv.2.2.2.1 (by omega)
              rw [ec, p1, p2, p3, p4]
              exact ⟨rfl, rfl, rfl, rfl⟩
        · exact ev_neg h0 (j1 l hv.next)
      · refine ev_neg k1 ?_
        refine Ev.step (fun k => by rw [watchmanlaw18_SessionRuns.j1]) ?_
        by_cases k2 : o.f0 = 2
        · refine ev_pos k2 ?_
          rw [wr1 (show (0 : Int) ≤ (i : Int) by omega) (by omega)]
          obtain ⟨r, e1, e2, e3⟩ := put_ev l hs (by omega) o.f1 o.f2 ((i : Int) + 1) o.f3.f0 o.f3.f1 o.f3.f2 (by omega)
          refine Ev.bind e1 ?_
          by_cases h0 : r.2 = 0
          · refine ev_pos h0 ?_
            obtain ⟨hw, n1, n2, q1, hok, q, hq, hid, q2, q3, hrr⟩ := e3 h0
            have hc : (⟨o.f1, o.f2, (i : Int) + 1, ⟨o.f3.f0, o.f3.f1, o.f3.f2⟩⟩ : Cl).f0 = l[q].f0 := hid.symm
            have hokc := (okc_iff _).1 (hw.1 _ (List.getElem_mem hq))
            have hf : ∀ z, fnd r.1 z = if z = o.f1 then some (⟨o.f1, o.f2, (i : Int) + 1, ⟨o.f3.f0, o.f3.f1, o.f3.f2⟩⟩ : Cl) else fnd l z := fun z => by rw [hrr]; exact put_fnd hw.2.1 q hq _ hc z
            have hw2 : isW r.1 := by
              rw [hrr]
              refine put_isW hw q hq _ hc ((okc_iff _).2 ⟨⟨?_, ?_, ?_, q1, n1, n2⟩, hok⟩)
              · show 1 ≤ o.f1; rw [← hid]; exact hokc.1.1
              · show o.f1 ≤ 1000000000; rw [← hid]; exact hokc.1.2.1
              · show 0 ≤ o.f2; omega
            have hle : ∀ c ∈ r.1, c.f0 ≤ ((i + 1 : Nat) : Int) := by
              intro c hc
              rw [hrr] at hc
              rcases List.mem_or_eq_of_mem_set hc with hc | rfl
              · have := hv.2.1 c hc; omega
              · show o.f1 ≤ _
                have := hv.2.1 _ (List.getElem_mem hq)
                rw [hid] at this
                omega
            by_cases hi3 : o.f1 = id
            · refine ev_pos hi3 ?_
              have hlast : ¬ o.f2 ≤ last := by
                have h5 := fnd_of hv.1.2.1 (List.getElem_mem hq)
                rw [hid, hi3] at h5
                have := (hv.2.2.1 _ h5).1
                omega
              rw [decide_eq_false hlast]
              refine Ev.step (fun k => by rw [watchmanlaw18_SessionRuns.j2]) ?_
              refine ev_neg (by decide) (ev_pos hi3 ?_)
              have eo : watchmanref18_OwnAnswer.f o.f3.f0 o.f3.f1 o.f3.f2 = some (o.f3.f0, o.f3.f1, o.f3.f2) := by
                unfold watchmanref18_OwnAnswer.f watchmanref01_OwnTexts.f
                rw [if_pos (by simp; omega), List.nil_append]
                rfl
              rw [eo]
              simp only [Option.bind_some]
              refine ih2 r.1 o.f2 o.f3.f0 o.f3.f1 o.f3.f2 ⟨hw2, hle, fun c hc2 => ?_, fun h => ?_, g3⟩
              · rw [hf id, if_pos hi3.symm] at hc2
                have ec := Option.some.inj hc2
                rw [← ec]
                exact ⟨rfl, rfl, rfl, rfl⟩
              · have := hv.2.1 _ (List.getElem_mem hq)
                rw [hid] at this
                omega
            · refine ev_neg hi3 ?_
              refine Ev.step (fun k => by rw [watchmanlaw18_SessionRuns.j2]) ?_
              refine ev_neg (by decide) (ev_neg hi3 ?_)
              refine ih2 r.1 last a n s ⟨hw2, hle, fun c hc2 => ?_, fun h => hv.2.2.2.1 (by omega), hv.2.2.2.2⟩
              rw [hf id, if_neg (fun h => hi3 h.symm)] at hc2
              exact hv.2.2.1 c hc2
          · exact ev_neg h0 (ih2 l last a n s hv.next)
        · exact ev_neg k2 (ih2 l last a n s hv.next)
theorem SessionRuns_pure : watchmanlaw18_SessionRuns.Pure := by
  intro most script id _ hl hls _
  refine Ev.rounds ?_
  unfold watchmanlaw18_SessionRuns.f
  by_cases hb : (script.length : Int) > 100
  · exact ev_pos hb (Ev.now _)
  · refine ev_neg hb ?_
    refine runs_l0 most id script (by omega) (fun x hx => ?_) script.length 0 [] 0 0 0 [] (by omega) ⟨⟨by simp, by simp, by simp⟩, by simp, fun c hc => ?_, fun _ => ⟨rfl, rfl, rfl, rfl⟩, by simp⟩
    · have := (hls x hx).2.2.2.2.2.1
      omega
    · unfold fnd at hc; simp at hc
end Go.Proofs.Ytkhdpmbjjcmooaa.F
