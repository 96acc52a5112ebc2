/- The pure statement of SessionOpens: a new client is known, and new; never more are known than most; one that goes was used no later than any that stays. -/
import Derived.Test.YtkhdpmbjjcmooaaU
import Derived.Test.YtkhdpmbjjcmooaaQSessionOpens
namespace Go.Proofs.Ytkhdpmbjjcmooaa.F
open Go.RowKit Go.Proofs.YtkhdpmbjjcmooaaV.PrintWords Go.Proofs.YtkhdpmbjjcmooaaV.PrintLast
theorem opens_j3 (l : List Cl) (most : Int) (m : List Cl) (hl : l.length ≤ 50) (g1 : (l.length : Int) < most → m.length = l.length + 1) (g2 : (l.length : Int) ≥ most → (m.length : Int) = most) :
    Ev (fun k => (watchmanlaw18_asked.f k).bind fun t => (if t = true then (if (l.length : Int) ≥ most then (if (l.length : Int) < most then (some true) else (some ((m.length : Int) == most))) else (if (m.length : Int) = (wrap64 ((l.length : Int) + 1)) then (if (l.length : Int) < most then (some true) else (some ((m.length : Int) == most))) else (none))) else (none))) true := by
  refine Ev.bind asked_ev ?_
  refine ev_pos rfl ?_
  by_cases h : (l.length : Int) ≥ most
  · refine ev_pos h (ev_neg (by omega) ?_)
    rw [show ((m.length : Int) == most) = true from beq_iff_eq.2 (g2 h)]
    exact Ev.now _
  · refine ev_neg h ?_
    have := g1 (by omega)
    rw [wr1 (show (0 : Int) ≤ (l.length : Int) by omega) (by omega)]
    exact ev_pos (by omega) (ev_pos (by omega) (Ev.now _))
theorem opens_l0 (l : List Cl) (most now : Int) (m : List Cl) (hl : l.length ≤ 50) (hm : m.length ≤ 50) (g1 : (l.length : Int) < most → m.length = l.length + 1) (g2 : (l.length : Int) ≥ most → (m.length : Int) = most)
    (c0 c1 c2 c3 c4 : Int) (c5 : List ByteArray) (hc : ∀ y ∈ m, y.f0 = now ∨ c2 ≤ y.f2) : ∀ (d i : Nat), i + d = m.length →
    Ev (fun k => watchmanlaw18_SessionOpens.l0 k l most now m (i : Int) c0 c1 c2 c3 c4 c5) true := by
  intro d
  induction d with
  | zero =>
    intro i hi
    refine Ev.step (fun k => by rw [watchmanlaw18_SessionOpens.l0]) ?_
    exact ev_neg (by omega) (opens_j3 l most m hl g1 g2)
  | succ d ih =>
    intro i hi
    have hi2 : i < m.length := by omega
    have h1 := ih (i + 1) (by omega)
    have e : ((i + 1 : Nat) : Int) = wrap64 ((i : Int) + 1) := by rw [wr1 (by omega) (by omega)]; rfl
    rw [e] at h1
    refine Ev.step (fun k => by rw [watchmanlaw18_SessionOpens.l0]) ?_
    refine ev_pos (by omega) (ev_pos (by omega) ?_)
    rw [rdC m i hi2]
    by_cases h2 : m[i].f0 = now
    · exact ev_pos h2 h1
    · refine ev_neg h2 (ev_neg ?_ h1)
      rcases hc _ (List.getElem_mem hi2) with h | h
      · exact absurd h h2
      · omega
theorem SessionOpens_pure : watchmanlaw18_SessionOpens.Pure := by
  intro l most now id hl hls _ _ _
  refine Ev.rounds ?_
  unfold watchmanlaw18_SessionOpens.f
  have hls2 : ∀ x ∈ l, x.f3.f2.length < 4611686018427387904 := by
    intro x hx
    have := (hls x hx).2.2.2.2.2.1
    omega
  obtain ⟨b1, h1, h1'⟩ := big_ev l (by omega) hls2
  refine Ev.bind h1 ?_
  cases b1 with
  | true => exact ev_pos rfl (Ev.now _)
  | false =>
    refine ev_neg (by decide) ?_
    obtain ⟨g1, g2⟩ := h1' rfl
    have hsm : sml l := fun c hc => by have := g2 c hc; omega
    obtain ⟨r, e1, e2⟩ := open_ev l hsm (by omega) most now
    refine Ev.bind e1 ?_
    by_cases h0 : r.2.2 = 0
    · refine ev_pos h0 ?_
      have hw2 := open_isW e2 h0
      have hsm2 := open_sml e2 hsm
      obtain ⟨hw, m1, m2, n1, n2, hlt, hn, l', hr, hsub, k1, k2, k3, _⟩ := e2.2 h0
      have hlen1 : (l.length : Int) < most → r.1.length = l.length + 1 := fun h => by rw [hr, List.length_append, List.length_singleton, k1 h]
      have hlen2 : (l.length : Int) ≥ most → (r.1.length : Int) = most := fun h => by rw [hr, List.length_append, List.length_singleton]; have := k2 h; omega
      have hnew : fnd r.1 now = some (nw now) := by
        have : nw now ∈ r.1 := by rw [hr]; simp
        exact fnd_of hw2.2.1 this
      have kc := check_ev r.1 hsm2 r.2.1 1
      have c1 : chk r.1 r.2.1 1 = (0, 0, [], 0) := by
        unfold chk
        rw [hn, hnew]
        show (if (1 : Int) < 1 ∨ (1 : Int) < 0 then _ else if (1 : Int) = 0 then _ else _) = _
        rw [if_neg (by omega), if_neg (by omega)]
      rw [c1] at kc
      refine Ev.bind kc ?_
      have fin : ∀ (p q : Bool) (c0 c1 c2 c3 c4 : Int) (c5 : List ByteArray), (p = true → q = false → ∀ y ∈ r.1, y.f0 = now ∨ c2 ≤ y.f2) → Ev (fun k => watchmanlaw18_SessionOpens.j0 k l most now r.1 p q false c0 c1 c2 c3 c4 c5) true := by
        intro p q c0 c1 c2 c3 c4 c5 h
        have j3 := opens_j3 l most r.1 g1 hlen1 hlen2
        refine Ev.step (fun k => by rw [watchmanlaw18_SessionOpens.j0]) ?_
        refine ev_neg (by decide) ?_
        cases p with
        | false =>
          refine ev_neg (by decide) ?_
          refine Ev.step (fun k => by rw [watchmanlaw18_SessionOpens.j1]) ?_
          exact ev_neg (by decide) j3
        | true =>
          refine ev_pos rfl ?_
          refine Ev.step (fun k => by rw [watchmanlaw18_SessionOpens.j1]) ?_
          cases q with
          | true => exact ev_neg (by decide) j3
          | false => exact ev_pos rfl (opens_l0 l most now r.1 g1 (by have := hw2.2.2; omega) hlen1 hlen2 c0 c1 c2 c3 c4 c5 (h rfl rfl) r.1.length 0 (by omega))
      have hlenm : ¬ (r.1.length : Int) > most := by
        by_cases h : (l.length : Int) < most
        · have := hlen1 h; omega
        · have := hlen2 (by omega); omega
      have isy := is_yes r.1 hw2
      -- who was, and who is
      have was : ∃ q : Int × Int × Int × Int × Int × List ByteArray × Bool, session_Find.f l id = some q ∧ (fnd l id = none → q.2.2.2.2.2.2 = false) ∧ (∀ c, fnd l id = some c → q.2.2.2.2.2.2 = true ∧ q.2.2.1 = c.f2) := by
        cases hf : fnd l id with
        | none => exact ⟨_, find_none hf, fun _ => rfl, fun c h => absurd h (by simp)⟩
        | some c => exact ⟨_, find_some hsm hf, fun h => absurd h (by simp), fun c' h => (by cases h; exact ⟨rfl, rfl⟩)⟩
      have is : ∃ q : Int × Int × Int × Int × Int × List ByteArray × Bool, session_Find.f r.1 id = some q ∧ (fnd r.1 id = none → q.2.2.2.2.2.2 = false) ∧ (∀ c, fnd r.1 id = some c → q.2.2.2.2.2.2 = true) := by
        cases hf : fnd r.1 id with
        | none => exact ⟨_, find_none hf, fun _ => rfl, fun c h => absurd h (by simp)⟩
        | some c => exact ⟨_, find_some hsm2 hf, fun h => absurd h (by simp), fun c' _ => rfl⟩
      obtain ⟨p, p1, p2, p3⟩ := was
      obtain ⟨q, q1, q2, q3⟩ := is
      rw [p1, q1]
      simp only [Option.bind_some]
      refine ev_pos hn (ev_pos (by simp) (ev_neg hlenm ?_))
      refine Ev.bind isy ?_
      refine ev_pos rfl ?_
      have okp : p.2.2.2.2.2.2 = true → q.2.2.2.2.2.2 = false → ∀ y ∈ r.1, y.f0 = now ∨ p.2.2.1 ≤ y.f2 := by
        intro hp hq y hy
        cases hf : fnd l id with
        | none => rw [p2 hf] at hp; cases hp
        | some c =>
          have hq2 : fnd r.1 id = none := by
            cases hz : fnd r.1 id with
            | none => rfl
            | some z => rw [q3 z hz] at hq; cases hq
          obtain ⟨f1, f2⟩ := fnd_some hf
          have hcl : c ∉ l' := fun h => fnd_none hq2 c (by rw [hr]; simp [h]) f2
          rw [(p3 c hf).2]
          rw [hr] at hy
          rcases List.mem_append.1 hy with hy | hy
          · exact .inr (k3 c f1 hcl y hy)
          · rw [List.mem_singleton.1 hy]; exact .inl rfl
      by_cases hid : id = now
      · exact ev_pos hid (fin _ _ _ _ _ _ _ _ okp)
      · refine ev_neg hid ?_
        by_cases hq : q.2.2.2.2.2.2 = true
        · refine ev_pos hq ?_
          have hpt : p.2.2.2.2.2.2 = true := by
            cases hz : fnd r.1 id with
            | none => rw [q2 hz] at hq; cases hq
            | some z =>
              obtain ⟨f1, f2⟩ := fnd_some hz
              have hzl : z ∈ l := by
                rw [hr] at f1
                rcases List.mem_append.1 f1 with f1 | f1
                · exact hsub.subset f1
                · rw [List.mem_singleton.1 f1] at f2; exact absurd f2.symm hid
              have := fnd_of hw.2.1 hzl
              rw [f2] at this
              exact (p3 z this).1
          have e0 : (!p.2.2.2.2.2.2) = false := by rw [hpt]; rfl
          rw [e0]
          exact fin _ _ _ _ _ _ _ _ okp
        · exact ev_neg hq (fin _ _ _ _ _ _ _ _ okp)
    · refine ev_neg h0 ?_
      rcases e2.1 with h | h
      · exact absurd h h0
      · refine Ev.bind asked_ev ?_
        refine ev_pos rfl ?_
        rw [h.1, h.2]
        exact ev_pos rfl (Ev.now _)
end Go.Proofs.Ytkhdpmbjjcmooaa.F
