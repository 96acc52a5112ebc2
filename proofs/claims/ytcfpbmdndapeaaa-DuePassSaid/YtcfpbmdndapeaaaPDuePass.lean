/- The pure statement of DuePass: of each alarm the last turn tells the phase that it has behind Pass; one that has none keeps its phase. -/
import Derived.Test.YtcfpbmdndapeaaaDu
import Derived.Test.YtcfpbmdndapeaaaHp
import Derived.Test.YtcfpbmdndapeaaaQDuePass
set_option linter.unusedVariables false
set_option linter.unusedSimpArgs false
namespace Go.Proofs.Ytcfpbmdndapeaaa.F
open Go.RowKit Go.Proofs.YtcfpbmdndapeaaaV.PrintWords Go.Proofs.YtcfpbmdndapeaaaV.PrintLast
namespace Du
open Ds (Tn ltT leT Srt)
def isOf (s : Sp) (y : Tn) : Bool := y.f1.f0 == s.f0 && (y.f1.f1 == s.f1)
theorem isOf_iff {s : Sp} {y : Tn} : isOf s y = true ↔ y.f1 = s := by
 unfold isOf
 rw [Bool.and_eq_true, beq_iff_eq, beq_iff_eq]
 exact ⟨fun h => sp_ext h.1 h.2, fun h => by rw [h]; exact ⟨rfl, rfl⟩⟩
/-- The last phase that is told of a spot. -/
def lastOf (s : Sp) (p : Int) (l : List Tn) : Int := l.foldl (fun p y => if isOf s y = true then y.f2 else p) p
theorem stp_srt (t : Int) (x : Al) : Srt (stp t x) := by
 have hb := wt_bound x.f2
 have one : ∀ y : Tn, Srt [y] := fun y => List.pairwise_singleton _ _
 unfold stp
 split
 ·split
  ·exact List.Pairwise.nil
  ·split
   ·exact one _
   ·refine List.pairwise_cons.2 ⟨fun y hy => ?_, one _⟩
    rw [List.mem_singleton.1 hy]
    unfold leT ltT
    dsimp only
    omega
 ·split
  ·split
   ·exact List.Pairwise.nil
   ·exact one _
  ·exact List.Pairwise.nil
theorem filter_one {t : Int} {a : Al} : ∀ {l : List Al}, asc l → a ∈ l → (l.flatMap (stp t)).filter (isOf a.f0) = stp t a
 | x :: l, hl, ha => by
  have hl' := List.pairwise_cons.1 hl
  rw [List.flatMap_cons, List.filter_append]
  have none_ : ∀ (m : List Al), (∀ y ∈ m, y.f0 ≠ a.f0) → (m.flatMap (stp t)).filter (isOf a.f0) = [] := fun m hm => by
   rw [List.filter_eq_nil_iff]
   intro y hy hs
   obtain ⟨z, hz, hy⟩ := List.mem_flatMap.1 hy
   exact hm z hz ((stp_spot hy).1.symm.trans (isOf_iff.1 hs))
  by_cases e : x = a
  ·subst e
   rw [none_ l (fun y hy he => by have := hl'.1 y hy; rw [he] at this; exact lt_irr _ this), List.append_nil]
   rw [List.filter_eq_self]
   exact fun y hy => isOf_iff.2 (stp_spot hy).1
  ·have ha' : a ∈ l := by
    rcases List.mem_cons.1 ha with h | h
    ·exact absurd h.symm e
    ·exact h
   have e0 : (stp t x).filter (isOf a.f0) = [] := by
    rw [List.filter_eq_nil_iff]
    intro y hy hs
    have := hl'.1 a ha'
    rw [← isOf_iff.1 hs, (stp_spot hy).1] at this
    exact lt_irr _ this
   rw [e0, List.nil_append]
   exact filter_one hl'.2 ha'
theorem last_stp {t : Int} {a : Al} (ha : isA a) : (stp t a).foldl (fun _ y => y.f2) a.f1 = (pA t a).f1 := by
 have hb := wt_bound a.f2
 show _ = passP a.f0.f0 a.f0.f1 a.f1 a.f2 a.f3 a.f4 t
 unfold passP stp
 rw [if_pos ha]
 by_cases c4 : a.f1 = 4
 ·rw [if_pos c4]
  by_cases c : a.f4 ≤ t
  ·rw [if_neg (show ¬ a.f4 > t by omega), if_pos (show a.f1 = 4 ∧ a.f4 ≤ t from ⟨c4, c⟩)]
   by_cases c2 : a.f4 + wt a.f2 ≤ t
   ·rw [if_neg (show ¬ a.f4 + wt a.f2 > t by omega), if_pos c2]; rfl
   ·rw [if_pos (show a.f4 + wt a.f2 > t by omega), if_neg c2]; rfl
  ·rw [if_pos (show a.f4 > t by omega), if_neg (show ¬ (a.f1 = 4 ∧ a.f4 ≤ t) by omega), if_neg (show ¬ (a.f1 = 1 ∧ a.f4 ≤ t) by omega)]; rfl
 ·rw [if_neg c4]
  by_cases c1 : a.f1 = 1
  ·rw [if_pos c1]
   by_cases c : a.f4 ≤ t
   ·rw [if_neg (show ¬ a.f4 > t by omega), if_neg (show ¬ (a.f1 = 4 ∧ a.f4 ≤ t) by omega), if_pos (show a.f1 = 1 ∧ a.f4 ≤ t from ⟨c1, c⟩)]; rfl
   ·rw [if_pos (show a.f4 > t by omega), if_neg (show ¬ (a.f1 = 4 ∧ a.f4 ≤ t) by omega), if_neg (show ¬ (a.f1 = 1 ∧ a.f4 ≤ t) by omega)]; rfl
  ·rw [if_neg c1, if_neg (show ¬ (a.f1 = 4 ∧ a.f4 ≤ t) by omega), if_neg (show ¬ (a.f1 = 1 ∧ a.f4 ≤ t) by omega)]; rfl
theorem last_is {t : Int} {l : List Al} {r : List Tn} (hl : asc l) (hs : Srt r) (hp : r.Perm (l.flatMap (stp t))) {a : Al} (ha : a ∈ l) (hA : isA a) : lastOf a.f0 a.f1 r = (pA t a).f1 := by
 have e : r.filter (isOf a.f0) = stp t a := Ds.srt_unique (hs.filter _) (stp_srt t a) ((hp.filter _).trans (by rw [filter_one hl ha]))
 unfold lastOf
 rw [← last_stp hA, ← e, List.foldl_filter]
theorem pass_l1 (l : List Al) (r : List Tn) (t m n m2 n2 : Int) (l2 : List Al) (i : Nat) (hi : i < l.length) (hr : r.length < 1000000) (v : Bool)
 (hfin : Ev (fun k => watchmanlaw09_DuePass.l1 k t r (i : Int) (lastOf l[i].f0 l[i].f1 r) (r.length : Int) m n l m2 n2 l2) v) : ∀ (d q : Nat), q + d = r.length →
 Ev (fun k => watchmanlaw09_DuePass.l1 k t r (i : Int) (lastOf l[i].f0 l[i].f1 (r.take q)) (q : Int) m n l m2 n2 l2) v := by
 intro d
 induction d with
 | zero =>
  intro q hq
  rw [show q = r.length by omega, List.take_length]
  exact hfin
 | succ d ih =>
  intro q hq
  have h1 := ih (q + 1) (by omega)
  have hq2 : q < r.length := by omega
  have e : ((q + 1 : Nat) : Int) = wrap64 ((q : Int) + 1) := by rw [wr1 (by omega) (by omega)]; rfl
  have e2 : lastOf l[i].f0 l[i].f1 (r.take (q + 1)) = if isOf l[i].f0 r[q] = true then r[q].f2 else lastOf l[i].f0 l[i].f1 (r.take q) := by
   unfold lastOf
   rw [List.take_succ_eq_append_getElem hq2, List.foldl_append]
   rfl
  rw [e, e2] at h1
  refine Ev.step (fun k => by rw [watchmanlaw09_DuePass.l1]) ?_
  refine ev_pos (by omega) (ev_pos (by omega) (ev_pos (by omega) (ev_pos (by omega) ?_)))
  rw [Ds.rdT r q hq2, rdA l i hi]
  by_cases c : isOf l[i].f0 r[q] = true
  ·rw [if_pos c] at h1
   exact ev_pos c h1
  ·rw [if_neg c] at h1
   exact ev_neg c h1
theorem at_ev (m n : Int) (l : List Al) (t : Int) (hp : asc l) {a : Al} (ha : a ∈ l) : Ev (fun k => due_At.f k m n l a.f0.f0 a.f0.f1 t) ((pA t a).f1, true) := by
 unfold due_At.f
 rw [get_of m n l hp a ha]
 simp only [Option.bind_some]
 exact ev_pos (by simp) (Ev.bind (pass_is a t) (Ev.now _))
theorem pass_loop (l : List Al) (r : List Tn) (t m n m2 n2 : Int) (hl : l.length ≤ 60) (hw : IsB m n l) (hs : Srt r) (hp : r.Perm (l.flatMap (stp t))) : ∀ (d i : Nat), i + d = l.length →
 Ev (fun k => watchmanlaw09_DuePass.l0 k t r (i : Int) m n l m2 n2 (l.map (pA t))) true := by
 have hrl : r.length < 1000000 := by have := hp.length_eq; have := flat_len t l; omega
 have hasc := hw.2.2.2.2.2.2
 intro d
 induction d with
 | zero =>
  intro i hi
  refine Ev.step (fun k => by rw [watchmanlaw09_DuePass.l0]) ?_
  exact ev_neg (by omega) (Ev.bind coming_ev (Ev.now _))
 | succ d ih =>
  intro i hi
  have hi2 : i < l.length := by omega
  have h1 := ih (i + 1) (by omega)
  have e : ((i + 1 : Nat) : Int) = wrap64 ((i : Int) + 1) := by rw [wr1 (by omega) (by omega)]; rfl
  rw [e] at h1
  have hin : l[i] ∈ l := List.getElem_mem hi2
  have hlast := last_is hasc hs hp hin (hw.2.2.2.2.2.1 _ hin).1
  have hg : board_Get.f m2 n2 (l.map (pA t)) l[i].f0.f0 l[i].f0.f1 = some (l[i].f0.f0, l[i].f0.f1, (pA t l[i]).f1, l[i].f2, l[i].f3, (pA t l[i]).f4, true) := get_of m2 n2 (l.map (pA t)) (asc_map l t hasc) (pA t l[i]) (List.mem_map.2 ⟨l[i], hin, rfl⟩)
  refine Ev.step (fun k => by rw [watchmanlaw09_DuePass.l0]) ?_
  refine ev_pos (by omega) (ev_pos (by omega) ?_)
  rw [rdA l i hi2]
  refine pass_l1 l r t m n m2 n2 (l.map (pA t)) i hi2 hrl true ?_ r.length 0 (by omega)
  rw [hlast]
  refine Ev.step (fun k => by rw [watchmanlaw09_DuePass.l1]) ?_
  refine ev_neg (by omega) (ev_pos (by omega) (ev_pos (by omega) ?_))
  rw [rdA l i hi2, hg]
  simp only [Option.bind_some]
  exact Ev.bind (at_ev m n l t hasc hin) (ev_pos (by simp) (ev_pos (by simp) (ev_pos (by simp) (ev_pos (by simp) h1))))
theorem DuePass_ev (m n : Int) (l : List Al) (t : Int) : Ev (fun k => watchmanlaw09_DuePass.f k m n l t) true := by
 unfold watchmanlaw09_DuePass.f
 rw [far_is]
 by_cases c : (l.length : Int) > 60
 ·rw [decide_eq_true c]
  exact Ev.bind (Ev.now true) (ev_pos rfl (Ev.now _))
 rw [decide_eq_false c]
 refine Ev.bind (Ev.now false) (ev_neg (by decide) ?_)
 obtain ⟨⟨r1, e1⟩, hT1, hI1⟩ := turns_ev m n l (by omega) t
 obtain ⟨⟨p1, p2, p3, p4⟩, hP, hPI⟩ := bpass_ev m n l (by omega) t
 refine Ev.bind hT1 (Ev.bind hP ?_)
 have bad : ∀ (e f : Int) (b : Bool) (m2 n2 : Int) (l2 : List Al), (e = 0 → f = 1) → Ev (fun k => watchmanlaw09_DuePass.j0 k t r1 e f true m n l m2 n2 l2) true := fun e f b m2 n2 l2 h => by
  refine Ev.step (fun k => by rw [watchmanlaw09_DuePass.j0]) ?_
  refine ev_pos rfl (Ev.bind coming_ev (ev_pos rfl ?_))
  by_cases c : e = 0
  ·refine ev_pos c ?_
   rw [h c]
   exact Ev.now _
  ·exact ev_neg c (Ev.now _)
 rcases hI1 with ⟨h1, hw, t0, t1, t2, s1, q1⟩ | ⟨h1, _⟩
 ·refine ev_pos h1 ?_
  by_cases c0 : p4 = 0
  ·obtain ⟨_, _, _, _, _, _, hp, _⟩ := hPI.1 c0
   have hp' : p3 = l.map (pA t) := hp
   subst hp'
   have e : (p4 != 0) = false := by rw [c0]; rfl
   show Ev (fun k => watchmanlaw09_DuePass.j0 k t r1 e1 p4 (p4 != 0) m n l p1 p2 (l.map (pA t))) true
   rw [e]
   refine Ev.step (fun k => by rw [watchmanlaw09_DuePass.j0]) ?_
   exact ev_neg (by decide) (pass_loop l r1 t m n p1 p2 (by omega) hw s1 q1 l.length 0 (by omega))
  ·have e : (p4 != 0) = true := bne_iff_ne.2 c0
   show Ev (fun k => watchmanlaw09_DuePass.j0 k t r1 e1 p4 (p4 != 0) m n l p1 p2 p3) true
   rw [e]
   refine bad _ _ true _ _ _ (fun _ => ?_)
   rcases (hPI.2 c0).1 with h | ⟨_, h⟩
   ·exact h
   ·omega
 ·refine ev_neg h1 (bad _ _ true _ _ _ (fun h => absurd h h1))
end Du
theorem DuePass_pure : watchmanlaw09_DuePass.Pure := by
 intro m n l t _ _ _ _ _
 obtain ⟨K, h⟩ := Du.DuePass_ev m n l t
 exact ⟨K, h K (Nat.le_refl _)⟩
end Go.Proofs.Ytcfpbmdndapeaaa.F
