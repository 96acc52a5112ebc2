/- The pure statement of SessionOldest: the oldest client was used no later than any other one, is one of them, and goes first. -/
import Derived.Test.YtkhdpmbjjcmooaaU
import Derived.Test.YtkhdpmbjjcmooaaQSessionOldest
namespace Go.Proofs.Ytkhdpmbjjcmooaa.F
open Go.RowKit Go.Proofs.YtkhdpmbjjcmooaaV.PrintWords Go.Proofs.YtkhdpmbjjcmooaaV.PrintLast
theorem mnn (a : Int) : mn a 30 ≤ a ∧ mn a 30 ≤ 30 ∧ (a ≤ 30 → mn a 30 = a) := by unfold mn; split <;> omega
theorem oldest_rounds (l : List Cl) (now : Int) (hb : l.length ≤ 50) (hsm : sml l) (c : Cl) (hf : fnd l c.f0 = some c) (h0 : 0 < l.length) (hoc : c.f0 = (old l h0).f0) (hc : c = old l h0 ∨ ¬ isW l) :
    ∀ (d i : Nat), i + d = l.length → Ev (fun k => watchmanlaw18_SessionOldest.l0 k l now c.f0 true (i : Int) c.f0 c.f1 c.f2 c.f3.f0 c.f3.f1 c.f3.f2) true := by
  have last : ∀ i : Int, Ev (fun k => watchmanlaw18_SessionOldest.j1 k l now c.f0 true i false c.f0 c.f1 c.f2 c.f3.f0 c.f3.f1 c.f3.f2) true := by
    intro i
    refine Ev.step (fun k => by rw [watchmanlaw18_SessionOldest.j1]) ?_
    refine ev_neg (by decide) ?_
    obtain ⟨r, e1, e2⟩ := open_ev l hsm (by omega) (mn (l.length : Int) 30) now
    refine Ev.bind e1 ?_
    by_cases h00 : r.2.2 = 0
    · obtain ⟨hw, m1, m2, n1, n2, hl, _, l', hr, hs, g1, g2, _, g4⟩ := e2.2 h00
      have hm : mn (l.length : Int) 30 = (l.length : Int) := (mnn _).2.2 (by have := hw.2.2; omega)
      have hfn : fnd r.1 c.f0 = none := by
        unfold fnd
        rw [List.find?_eq_none]
        intro y hy
        rw [hr] at hy
        rcases List.mem_append.1 hy with hy | hy
        · have := g4 h0 (by rw [hm]; omega) y hy
          simp only [decide_eq_true_iff]
          rw [hoc]; exact this
        · rw [List.mem_singleton.1 hy]
          have := hl c (fnd_some hf).1
          simp only [decide_eq_true_iff]
          show ¬ now = c.f0
          omega
      rw [find_none hfn]
      simp only [Option.bind_some]
      refine Ev.bind asked_ev ?_
      refine ev_pos rfl (ev_pos (by simp) (ev_pos h00 ?_))
      refine ev_neg (by decide) ?_
      have hlen : r.1.length = l.length := by
        rw [hr, List.length_append, List.length_singleton]
        have := g2 (by rw [hm]; omega)
        rw [hm] at this
        omega
      rw [hlen]
      simp only [beq_self_eq_true]
      exact Ev.now _
    · have hfind : ∃ q, session_Find.f r.1 c.f0 = some q := by
        rcases e2.1 with h | h
        · exact absurd h h00
        · rw [h.1]; exact ⟨_, find_none rfl⟩
      obtain ⟨q, hq⟩ := hfind
      rw [hq]
      simp only [Option.bind_some]
      refine Ev.bind asked_ev ?_
      exact ev_pos rfl (ev_pos (by simp) (ev_neg h00 (Ev.now _)))
  intro d
  induction d with
  | zero =>
    intro i hi
    refine Ev.step (fun k => by rw [watchmanlaw18_SessionOldest.l0]) ?_
    exact ev_neg (by omega) (last _)
  | succ d ih =>
    intro i hi
    have hi2 : i < l.length := by omega
    have h1 := ih (i + 1) (by omega)
    have e : ((i + 1 : Nat) : Int) = wrap64 ((i : Int) + 1) := by rw [wr1 (by omega) (by omega)]; rfl
    rw [e] at h1
    refine Ev.step (fun k => by rw [watchmanlaw18_SessionOldest.l0]) ?_
    refine ev_pos (by omega) ?_
    obtain ⟨b, g1, g2⟩ := is_ev l (by omega)
    refine Ev.bind g1 ?_
    cases b with
    | false => exact last _
    | true =>
      have hco : c = old l h0 := by
        rcases hc with h | h
        · exact h
        · exact absurd (g2.1 rfl) h
      refine Ev.step (fun k => by rw [watchmanlaw18_SessionOldest.j1]) ?_
      refine ev_pos rfl (ev_pos (by omega) (ev_pos (by omega) ?_))
      rw [rdC l i hi2]
      have ho := (old_is l h0).2 l[i] (List.getElem_mem hi2)
      rw [← hco] at ho
      unfold older at ho
      refine ev_neg (by omega) ?_
      by_cases h2 : l[i].f2 = c.f2
      · refine ev_pos h2 (ev_neg (by omega) h1)
      · exact ev_neg h2 h1
theorem SessionOldest_pure : watchmanlaw18_SessionOldest.Pure := by
  intro l now hl hls _
  refine Ev.rounds ?_
  unfold watchmanlaw18_SessionOldest.f
  have hls2 : ∀ x ∈ l, x.f3.f2.length < 4611686018427387904 := by
    intro x hx
    have := (hls x hx).2.2.2.2.2.1
    omega
  obtain ⟨b1, h1, h1'⟩ := big_ev l (by omega) hls2
  refine Ev.bind h1 ?_
  cases b1 with
  | true => exact ev_pos rfl (Ev.now _)
  | false =>
    refine ev_neg (by decide) ?_
    obtain ⟨g1, g2⟩ := h1' rfl
    have hsm : sml l := fun c hc => by have := g2 c hc; omega
    unfold session_Oldest.f
    by_cases h0 : (l.length : Int) = 0
    · simp only [if_pos h0]
      refine Ev.bind (a := (0, false)) (Ev.now _) ?_
      refine ev_neg (by decide) ?_
      refine Ev.bind asked_ev ?_
      exact ev_pos rfl (Ev.now _)
    · have h00 : 0 < l.length := by omega
      simp only [if_neg h0]
      refine Ev.bind (a := ((old l h00).f0, true)) ?_ ?_
      · refine ev_pos (by omega) (ev_pos (by omega) ?_)
        exact Ev.bind (old_ev l h00 (by omega)) (Ev.now _)
      · refine ev_pos rfl ?_
        have hom := (old_is l h00).1
        cases hf : fnd l (old l h00).f0 with
        | none => exact absurd rfl (fnd_none hf _ hom)
        | some c =>
          obtain ⟨f1, f2⟩ := fnd_some hf
          have hcw : c = old l h00 ∨ ¬ isW l := by
            by_cases hw : isW l
            · left
              have := fnd_of hw.2.1 hom
              rw [hf] at this
              exact Option.some.inj this
            · exact .inr hw
          rw [find_some hsm hf]
          simp only [Option.bind_some]
          rw [← f2] at hf ⊢
          exact oldest_rounds l now g1 hsm c hf h00 f2 hcw l.length 0 (by omega)
end Go.Proofs.Ytkhdpmbjjcmooaa.F
