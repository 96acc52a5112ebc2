/- Words for loops over a function ('range' over an iterator): an append of a struct in a round, a box with a row of the call's own between two rounds, a function's way out past several such loops. No condition. -/
import Derived.RangeFuncNested
import Derived.RangeFuncBound
import Derived.RangeFuncCalls
import Derived.RangeFuncLeaves
import Derived.OwnWalkIn
import Derived.Maps.AppendAt
import Derived.LoopIn
import Derived.OrdersIn
import Derived.Test.YtcfpbmdndapeaaaV
namespace Go.Proofs.Ytcfpbmdndapeaaa.X
open Go.RowKit Go.Proofs.YtcfpbmdndapeaaaV.PrintWords
set_option linter.unusedVariables false
theorem wpListIn_append_own_at {F : Fence} {n0 : Nat} {P : Program} (w : World) {ops : Array Oper} {rest : List Oper} {o : Oper} {a : Act} {Q : Exit → Act → World → Prop} (hgd : o.guard = none) (s x : Operand) (t : TypeId)
    (ho : o.op = .call { callee := .builtin .append, args := #[s, x], argTypes := #[t, t] })
    (base : Nat) (e : TypeId) (i : TypeInfo) (z : Value) (size bytes : Nat) (ht : P.underlying t = some (.slice e)) (hi : P.info? e = some i) (hz : i.zero = some z)
    (hsize : i.size = size) (hby : i.bytes = bytes) (hzs : z.cells.size = size) (hsz : 0 < size)
    (v : Value) (n : Nat) (xs : List Value) (hs : a.eval s = v) (hown : w.ownsRow base e size v n xs)
    (ad : Addr) (m c : Nat) (news : List Value) (hx : a.eval x = .slice (some ad) m c) (hl : news.length = m * size) (hnews : ∀ j u, news[j]? = some u → w.cell? (ad.add j) = some u) (h1 : ∀ u ∈ news, u.oneCell' = true)
    (h63 : n + m ≤ maxLen) (hbytes : (n + m) * bytes ≤ 140737488355328) (hbase : base ≤ w.heap.size)
    (h : ∀ v' w', w'.ownsRow base e size v' (n + m) (xs ++ news) → w.grownBy w' v.ownBlock → (v' = .slice none 0 0 ↔ v = .slice none 0 0 ∧ m = 0) → (v'.ownBlock = v.ownBlock ∨ v'.ownBlock = some w.heap.size) → wpListIn F n0 P ops Q rest (a.put o.dst v') w') :
    wpListIn F n0 P ops Q (o :: rest) a w := by
  refine wpListIn_plain hgd fun K hK' => ?_
  obtain ⟨v', w', hrun, r1, r2, r3, r4⟩ := run_append_own_at (P := P) w base t o.type e i z size bytes ht hi hz hsize hby hzs hsz v n xs hown ad m c news hl hnews h1 h63 hbytes hbase
  unfold Oper.wpIn
  refine ⟨?_, ?_⟩
  · simp [Oper.about, ho, resolve, Target.leads, Sem.run_pure]
  · rw [Oper.semAt_plain F _ _ (by rw [ho]; intro c hc'; cases hc')]
    simp [execOp, ho, resolve, invoke, builtin, hs, hx, hrun, Result.andThen]
    exact hK' _ _ (h v' w' r1 r2 r3 r4)
/-- 'Kd.R_append' within a fence. -/
theorem R_append_in {F : Fence} {n0 : Nat} {P : Program} {ops : Array Oper} {rest : List Oper} {o : Oper} {a : Act} {Q : Exit → Act → World → Prop} {α : Type} (d : Kd α) {w0 W : World} (base : Nat) (hgd : o.guard = none) (s x : Operand) (t e : TypeId) (z : Value) (bytes : Nat)
    (ho : o.op = .call { callee := .builtin .append, args := #[s, x], argTypes := #[t, t] })
    (ht : P.underlying t = some (.slice e)) (hinfo : (P.info? e).map (fun i => (i.zero, i.size, i.bytes)) = some (some z, d.sz, bytes)) (hz : z.cells.size = d.sz) (hs0 : 0 < d.sz) (hb0 : 0 < bytes)
    (v : Value) (xs : List α) (p : α) (cs : List Value) (ok okp : Nat → Prop) (hs : a.eval s = v) (hx : a.eval x = .slice (some ⟨W.heap.size, 0, none⟩) 1 1) (hp : d.M W base okp p cs) (hokp : ∀ k, okp k → ok k ∧ some k ≠ v.ownBlock) (hfresh : ∀ k, W.heap.size ≤ k → ok k)
    (HO : d.R e W base ok v xs) (HB : Below base w0 W) (hbase : base ≤ W.heap.size) (hl : (xs.length + 1) * bytes ≤ 140737488355328)
    (h : ∀ v1 w1, d.R e w1 base ok v1 (xs ++ [p]) → Below base w0 w1 → W.grownBy w1 v.ownBlock → (v1.ownBlock = v.ownBlock ∨ ∃ b, v1.ownBlock = some b ∧ W.heap.size ≤ b) → wpListIn F n0 P ops Q rest (a.put o.dst v1) w1) :
    wpListIn F n0 P ops Q (o :: rest) a (W.alloc (.cells cs.toArray e)) := by
  obtain ⟨h0, inner, hown, hr⟩ := HO
  obtain ⟨i0, hi, hzz⟩ := Option.map_eq_some_iff.1 hinfo
  simp only [Prod.mk.injEq] at hzz
  obtain ⟨hz0, hz1, hz2⟩ := hzz
  have hlen : xs.length + 1 ≤ 140737488355328 := Nat.le_trans (Nat.le_mul_of_pos_right _ hb0) hl
  have hcl := d.K_len (d.K_of_M hp)
  refine wpListIn_append_own_at (W.alloc (.cells cs.toArray e)) hgd s x t ho base e i0 z d.sz bytes ht hi hz0 hz1 hz2 hz hs0 v xs.length inner hs (hown.alloc _) ⟨W.heap.size, 0, none⟩ 1 1 cs hx (by rw [hcl]; simp)
    (by simpa using World.news_of_block (cs := cs.toArray) (t := e) (fr := (0, 0)) (heap_alloc_new W (.cells cs.toArray e))) (d.K_one (d.K_of_M hp)) (by simp only [maxLen]; omega) hl (by simp; omega) ?_
  intro v1 w1 hown1 hg _ hat
  have hg1 : W.grownBy w1 v.ownBlock := World.grownBy.trans (World.grownBy_alloc W _ _) hg
  have hat1 : v1.ownBlock = v.ownBlock ∨ ∃ b, v1.ownBlock = some b ∧ W.heap.size ≤ b := by
    rcases hat with hat | hat
    · exact .inl hat
    · exact .inr ⟨_, hat, by simp⟩
  exact h v1 w1 (Kd.R_appended h0 hr hp hokp hfresh hown1 hg1 hat1) ((HB.alloc hbase _).grown hg (by simp; omega) (own_base hown)) hg1 hat1
/-- A block of cells is not turned where what is turned is no cells. -/
theorem blk_own {β : Type} {g t : Nat} (cs : β → Array Value) : Own (fun (s : β) (W : World) => W.heap[g]? = some (.cells (cs s) t (0, 0))) := fun s W W' row hs hg hr =>
  blk_grown hs hg (fun e => by
    obtain ⟨o, ho, hc⟩ := hr g e.symm
    rw [hs] at ho; cases ho; cases hc)
/-- A row of the call's own lies where what is turned is no cells. -/
theorem R_nocells {α : Type} {d : Kd α} {e base : Nat} {ok : Nat → Prop} {W W' : World} {v : Value} {xs : List α} {row : Option Nat} (h : d.R e W base ok v xs) (hg : W.grownBy W' row) (hr : ∀ r, row = some r → ∃ o : Obj, W.heap[r]? = some o ∧ o.isCells = false) : d.R e W' base ok v xs :=
  Kd.R_mono (Kd.R_grown (Kd.R_bound h) hg (fun k hk he => by
    obtain ⟨o, ho, hc⟩ := hr k he.symm
    obtain ⟨_, _, _, q, _, cells, hcells⟩ := hk
    rw [hcells] at ho; cases ho; cases hc)) (fun _ hk => hk.1)
/-- A box that holds a row of the call's own, between two rounds. -/
theorem boxR_own {α β : Type} (d : Kd α) (e base g t : Nat) (ok : Nat → Prop) (f : β → List α) : Own (fun (s : β) (W : World) => ∃ v, Boxed W g t v ∧ d.R e W base ok v (f s)) := fun s W W' row ⟨v, hv, hR⟩ hg hr =>
  ⟨v, hv.kept hg (fun e' => by
    obtain ⟨o, ho, hc⟩ := hr g e'.symm
    rw [show W.heap[g]? = _ from hv] at ho; cases ho; cases hc), R_nocells hR hg hr⟩
/-- The marks of loops over functions, one for each that was entered. -/
def marks (ds : List Nat) : List Deferred := ds.map fun D => { target := .collected D, args := #[] }
/-- The world behind the taking of the marks. -/
def shutAll : List Nat → World → World
  | [], w => w
  | D :: ds, w => shutAll ds (w.putObj D (.deferred none))
theorem leaves_marks {F : Fence} {n : Nat} {P : Program} {fn : Func} {tmps : Array Value} {R : Ending → World → Prop} :
    ∀ (ds : List Nat) (w : World), ds.Nodup → (∀ D ∈ ds, w.heap[D]? = some (.deferred (some []))) → (∃ v, (results fn tmps).run P (shutAll ds w) = .ok v (shutAll ds w) ∧ R (.returned v) (shutAll ds w)) →
      LeavesInM F n P fn tmps R (marks ds) .returning w
  | [], w, _, _, h => h
  | D :: ds, w, hn, hd, h => by
    refine ⟨by simp, .inl ⟨D, w.putObj D (.deferred none), rfl, run_takeDeferred (hd D List.mem_cons_self), ?_⟩⟩
    rw [List.nodup_cons] at hn
    exact leaves_marks ds _ hn.2 (fun E hE => (World.putObj_heap_other (fun e => hn.1 (by rw [← e]; exact hE))).trans (hd E (List.mem_cons_of_mem _ hE))) h
/-- What lies behind it: what was no mark lies as it lay. -/
theorem shutAll_grown : ∀ (ds : List Nat) (w : World) {k : Nat}, (∀ D ∈ ds, k ≠ D) → (shutAll ds w).heap[k]? = w.heap[k]?
  | [], _, _, _ => rfl
  | D :: ds, w, k, h => (shutAll_grown ds _ (fun E hE => h E (List.mem_cons_of_mem _ hE))).trans (World.putObj_heap_other (h D List.mem_cons_self))
theorem shutAll_size : ∀ (ds : List Nat) (w : World), (shutAll ds w).heap.size = w.heap.size
  | [], _ => rfl
  | D :: ds, w => by rw [shutAll, shutAll_size ds]; simp
theorem shutAll_below {B : Nat} {w0 : World} : ∀ (ds : List Nat) {w : World}, Below B w0 w → B ≤ w.heap.size → (∀ D ∈ ds, B ≤ D) → Below B w0 (shutAll ds w)
  | [], _, h, _, _ => h
  | D :: ds, w, h, hB, hd => shutAll_below ds (h.grown (grownBy_putObj' w D _) hB (fun k e => by cases e; exact hd D List.mem_cons_self)) (by simpa using hB) (fun E hE => hd E (List.mem_cons_of_mem _ hE))
theorem shutAll_R {α : Type} {d : Kd α} {e base : Nat} {ok : Nat → Prop} {v : Value} {xs : List α} : ∀ (ds : List Nat) {w : World}, ds.Nodup → (∀ D ∈ ds, w.heap[D]? = some (.deferred (some []))) → d.R e w base ok v xs → d.R e (shutAll ds w) base ok v xs
  | [], _, _, _, h => h
  | D :: ds, w, hn, hd, h => by
    rw [List.nodup_cons] at hn
    refine shutAll_R ds hn.2 (fun E hE => (World.putObj_heap_other (fun e => hn.1 (by rw [← e]; exact hE))).trans (hd E (List.mem_cons_of_mem _ hE))) (R_nocells h (grownBy_putObj' w D _) (fun r e => ?_))
    cases e
    exact ⟨_, hd D List.mem_cons_self, rfl⟩
/-- An operation that is no 'defer' runs in a round of the wide fence as everywhere. -/
theorem oper_in_of_plain {l n : Nat} {P : Program} {o : Oper} {a : Act} {w : World} {K : Act → World → Prop} {Q : Exit → Act → World → Prop} (hd : ∀ c, o.op ≠ .defer c) (h : o.wp P a w K Q) : o.wpIn (Fence.wide.inRound l) n P a w K Q := by
  refine ⟨fun _ _ => trivial, ?_⟩
  rw [Oper.semAt_plain _ _ _ hd]
  unfold Oper.wp at h
  revert h
  generalize (execOp a.eval o).run P w = r
  intro h
  cases r with
  | ok x w' =>
    cases x with
    | value v => exact h
    | skip => exact h
    | defer d => exact h
    | enter f args => exact ⟨fun h0 => by simp [Fence.wide] at h0, CallsIn.inRound l (callsIn_wide.2 h)⟩
    | row r args =>
      refine ⟨fun h0 => by simp [Fence.wide] at h0, fun c cs _ => ?_⟩
      obtain ⟨v, w'', hr, hs⟩ := h c cs
      exact ⟨v, w'', hr, stepsIn_wide.2 hs⟩
    | _ => exact h.elim
  | halt x w' => cases x <;> exact h
theorem wpAnyIn_of_plain {l n : Nat} {P : Program} {ops : Array Oper} {Q : Exit → Act → World → Prop} {md : Region.Mode} (hd : ∀ o ∈ ops, ∀ c, o.op ≠ .defer c) (hlo : ¬ LetsOut Q) :
    ∀ (fuel : Nat) (listed : Array Bool) (a : Act) (w : World), wpAny P md ops Q fuel listed a w → wpAnyIn (Fence.wide.inRound l) n P md ops Q fuel listed a w
  | 0, _, _, _, h => h
  | fuel + 1, listed, a, w, h => by
    refine ⟨h.1, fun i hi => ?_⟩
    have h2 := h.2 i hi
    unfold wpOp at h2
    unfold wpOpIn
    split
    · rename_i ho; rw [ho] at h2; exact wpAnyIn_of_plain hd hlo fuel _ _ _ h2
    · rename_i o ho
      rw [ho] at h2
      simp only at h2
      split
      · rename_i hw
        rw [if_pos hw] at h2
        rcases h2 with h2 | ⟨_, h2⟩
        · exact Oper.wpIn_mono (fun a w h3 => wpAnyIn_of_plain hd hlo fuel _ a w h3) (oper_in_of_plain (hd o (Array.mem_of_getElem? ho)) h2)
        · exact absurd h2 hlo
      · rename_i hw
        rw [if_neg hw] at h2
        exact ⟨fun _ _ => trivial, wpAnyIn_of_plain hd hlo fuel _ _ _ h2⟩
/-- No operation of a region is a 'defer'. -/
def isDefer (o : Op) : Bool := match o with | .defer _ => true | _ => false
def noDefer (l : List Oper) : Bool := l.all fun o => !isDefer o.op
theorem noDefer_is {l : List Oper} (h : noDefer l = true) : ∀ o ∈ l, ∀ c, o.op ≠ .defer c := fun o ho c e => by
  have h2 := List.all_eq_true.1 h o ho
  rw [e] at h2
  simp [isDefer] at h2
/-- A region that draws its order, in a round of the wide fence: by the plain walk over its orders. -/
theorem wpIn_region_any_plain {l n id : Nat} {P : Program} {ops : List Oper} {Q : Exit → Act → World → Prop} {a : Act} {w : World} (hm : P.follows .mixedOrders = true) (hd : noDefer ops = true) (hlo : ¬ LetsOut Q)
    (h : wpAny P .any ops.toArray Q ops.length (Array.replicate ops.length false) a (World.drew w)) : (Code.region id ops.toArray true).wpIn (Fence.wide.inRound l) n P Q a w :=
  wpIn_region_any hm (wpAnyIn_of_plain (fun o ho => noDefer_is hd o (by simpa using ho)) hlo _ _ _ _ (by simpa using h))
/-- What goes on alone. -/
def onlyNormal (K : Act → World → Prop) : Exit → Act → World → Prop
  | .normal, a, w => K a w
  | _, _, _ => False
theorem wp_only {P : Program} {c : Code} {Q : Exit → Act → World → Prop} {a : Act} {w : World} (h : c.wp P (onlyNormal (Q .normal)) a w) : c.wp P Q a w :=
  wp_mono h (fun e a w h => by cases e <;> first | exact h | exact h.elim)
end Go.Proofs.Ytcfpbmdndapeaaa.X
