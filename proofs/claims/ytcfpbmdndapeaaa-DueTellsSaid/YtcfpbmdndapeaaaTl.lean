/- What is told of memory in a straight walk: rows and boxes of the call's own, each with the blocks that it lies in, no two of which meet; one fact for all, carried from world to world. By this session. -/
import Derived.Test.YtcfpbmdndapeaaaV
namespace Go.Proofs.Ytcfpbmdndapeaaa.T
open Go.RowKit Go.Proofs.YtcfpbmdndapeaaaV.PrintWords Go.Proofs.YtcfpbmdndapeaaaV.PrintLast Go.Proofs.YtcfpbmdndapeaaaV.PrintMore
set_option linter.unusedVariables false
structure Cl where
  ok : Nat → Prop
  P : World → Prop
structure Tell (w0 W : World) (L : List Cl) : Prop where
  below : Below w0.heap.size w0 W
  foot : ∀ x ∈ L, Foot x.P W x.ok
  lt : ∀ x ∈ L, ∀ k, x.ok k → w0.heap.size ≤ k ∧ k < W.heap.size
  apart : L.Pairwise (fun x y => ∀ k, x.ok k → ¬ y.ok k)
def cR {α : Type} (d : Kd α) (e b lo hi : Nat) (v : Value) (xs : List α) : Cl := ⟨fun k => lo ≤ k ∧ k < hi, fun w => d.R e w b (fun k => lo ≤ k ∧ k < hi) v xs⟩
def cS {α : Type} (d : Kd α) (e b lo hi : Nat) (v : Value) (xs : List α) : Cl := ⟨fun k => lo ≤ k ∧ k < hi, fun w => Kd.S d e w b (fun k => lo ≤ k ∧ k < hi) v xs⟩
def cV {α : Type} (d : Kd α) (e lo hi : Nat) (v : Value) (xs : List α) : Cl := ⟨fun k => lo ≤ k ∧ k < hi, fun w => Kd.V d e w 0 (fun k => lo ≤ k ∧ k < hi) v xs⟩
def cB (g : Nat) (cs : Array Value) (t : TypeId) : Cl := ⟨fun k => k = g, fun w => w.heap[g]? = some (.cells cs t (0, 0))⟩
theorem heap_push_ (W : World) (o : Obj) : (W.alloc o).heap[W.heap.size]? = some o := by
  show (W.heap.push o)[W.heap.size]? = some o
  simp
theorem flat_at {sz : Nat} : ∀ (css : List (List Value)) (j : Nat) (c : List Value) (i : Nat) (u : Value), (∀ c ∈ css, c.length = sz) → css[j]? = some c → c[i]? = some u → css.flatten[j * sz + i]? = some u
  | [], j, c, i, u, _, hj, _ => by simp at hj
  | c0 :: r, 0, c, i, u, hs, hj, hi => by
    obtain rfl : c0 = c := by simpa using hj
    rw [List.flatten_cons, Nat.zero_mul, Nat.zero_add, List.getElem?_append_left (List.getElem?_eq_some_iff.1 hi).1]
    exact hi
  | c0 :: r, j + 1, c, i, u, hs, hj, hi => by
    have h0 := hs c0 List.mem_cons_self
    have h1 := flat_at r j c i u (fun c hc => hs c (List.mem_cons_of_mem _ hc)) (by simpa using hj) hi
    rw [List.flatten_cons, List.getElem?_append_right (by rw [h0, Nat.succ_mul]; omega), h0, show (j + 1) * sz + i - sz = j * sz + i by rw [Nat.succ_mul]; omega]
    exact h1
/-- A row that lies in one block, from its head on. -/
theorem C_block {α : Type} {d : Kd α} {W : World} {g : Nat} {cz : Array Value} {t : Nat} (h : W.heap[g]? = some (.cells cz t (0, 0))) {xs : List α} (css : List (List Value)) (hc : cz.toList = css.flatten) (hl : xs.length = css.length) (hm : xs.length ≤ 9223372036854775807)
    (hk : ∀ (j : Nat) (x : α) (c : List Value), xs[j]? = some x → css[j]? = some c → d.K W x c) : d.C W (some ⟨g, 0, none⟩) xs.length xs := by
  have hs : ∀ c ∈ css, c.length = d.sz := by
    intro c hc
    obtain ⟨j, hj⟩ := List.mem_iff_getElem?.1 hc
    have hlt := (List.getElem?_eq_some_iff.1 hj).1
    exact d.K_len (hk j _ c (List.getElem?_eq_getElem (by omega)) hj)
  refine ⟨rfl, hm, fun _ => ⟨_, rfl, fun j p hj => ?_⟩⟩
  have hlt := (List.getElem?_eq_some_iff.1 hj).1
  have hj2 : css[j]? = some (css[j]'(by omega)) := List.getElem?_eq_getElem (by omega)
  refine ⟨_, hs _ (List.mem_of_getElem? hj2), hk j p _ hj hj2, fun i u hi => ?_⟩
  have h2 := flat_at css j _ i u hs hj2 hi
  rw [add_plain, blk_cell h, ← h2, ← hc, Array.getElem?_toList]
theorem C_one {α : Type} {d : Kd α} {W : World} {g : Nat} {c : List Value} {t : Nat} {x : α} (h : W.heap[g]? = some (.cells c.toArray t (0, 0))) (hk : d.K W x c) : d.C W (some ⟨g, 0, none⟩) 1 [x] :=
  C_block h (xs := [x]) [c] (by simp) rfl (by simp) (fun j y c' h1 h2 => by
    cases j with
    | zero => obtain rfl : x = y := by simpa using h1
              obtain rfl : c = c' := by simpa using h2
              exact hk
    | succ j => simp at h1)
theorem C_three {α : Type} {d : Kd α} {W : World} {g : Nat} {v0 v1 v2 : Value} {t : Nat} {x y z : α} (h : W.heap[g]? = some (.cells #[v0, v1, v2] t (0, 0))) (h0 : d.K W x [v0]) (h1 : d.K W y [v1]) (h2 : d.K W z [v2]) : d.C W (some ⟨g, 0, none⟩) 3 [x, y, z] :=
  C_block h (xs := [x, y, z]) [[v0], [v1], [v2]] (by simp) rfl (by simp) (fun j p c hp hc => by
    match j with
    | 0 => obtain rfl : x = p := by simpa using hp
           obtain rfl : [v0] = c := by simpa using hc
           exact h0
    | 1 => obtain rfl : y = p := by simpa using hp
           obtain rfl : [v1] = c := by simpa using hc
           exact h1
    | 2 => obtain rfl : z = p := by simpa using hp
           obtain rfl : [v2] = c := by simpa using hc
           exact h2
    | j + 3 => simp at hp)
/-- A row whose elements lead to unlike blocks: each element's cells, and its blocks. -/
theorem S_split {α : Type} {d : Kd α} {e n cap g b : Nat} {W : World} {ok : Nat → Prop} {xs : List α} (h : Kd.S d e W b ok (.slice (some ⟨g, 0, none⟩) n cap) xs) : ∃ own : Nat → Nat → Prop, (∀ i j k, own i k → own j k → i = j) ∧ (∀ i k, own i k → ok k ∧ k ≠ g) ∧
    ∀ i x, xs[i]? = some x → ∃ c, c.length = d.sz ∧ d.M W b (own i) x c ∧ ∀ j u, c[j]? = some u → W.cell? ⟨g, i * d.sz + j, none⟩ = some u := by
  obtain ⟨f, hR⟩ := h
  have hgo : some g = (Value.slice (some ⟨g, 0, none⟩) n cap).ownBlock := by simp [Value.ownBlock]
  obtain ⟨hok0, inner, ho, hr⟩ := hR
  have hlen : inner.length = xs.length * d.sz := by have := hr.1; rw [List.length_zipIdx] at this; exact this
  refine ⟨fun i k => (ok k ∧ k ≠ g) ∧ f k = i, fun i j k h1 h2 => h1.2.symm.trans h2.2, fun i k hk => hk.1, fun i x hx => ?_⟩
  have hil := (List.getElem?_eq_some_iff.1 hx).1
  have hseg : i * d.sz + d.sz ≤ inner.length := by rw [hlen, ← Nat.succ_mul]; exact Nat.mul_le_mul_right _ hil
  have hM := hr.2 i _ (Kd.zip_at hx)
  refine ⟨(inner.drop (i * d.sz)).take d.sz, by rw [List.length_take, List.length_drop]; omega, d.M_mono (fun k hk => ⟨⟨hk.1.1, fun he => hk.1.2 (by rw [he]; exact hgo)⟩, hk.2⟩) hM, fun j u hu => ?_⟩
  rw [List.getElem?_take] at hu
  split at hu
  · rw [List.getElem?_drop] at hu
    have := ho.cells (g := g) hgo.symm _ u hu
    rwa [add_plain] at this
  · cases hu
/-- What is written of the first m elements' blocks. -/
theorem kept_round {W0 W W2 : World} {own : Nat → Nat → Prop} {m : Nat} (h : Kept W0 W (fun k => ∃ j, j < m ∧ own j k)) (h2 : Kept W W2 (own m)) : Kept W0 W2 (fun k => ∃ j, j < m + 1 ∧ own j k) :=
  (h.mono (fun k ⟨j, hj, ho⟩ => ⟨j, Nat.lt_succ_of_lt hj, ho⟩)).then_ h2 (fun k hk => .inl ⟨m, Nat.lt_succ_self m, hk⟩)
theorem lit_event {P : Program} {ops : Array Oper} {rest : List Oper} {o : Oper} {a : Act} {Q : Exit → Act → World → Prop} {W : World} (hgd : o.guard = none) {N : Tmp} (_hd : o.dst = some N) {n : Nat} {cs : Array Value} {t : TypeId}
    (hrun : (execOp a.eval o).run P W = .ok (.value (.slice (some ⟨W.heap.size, 0, none⟩) n n)) (W.alloc (.cells cs t (0, 0))))
    (h : ∀ g, g = W.heap.size → ∀ w1, w1.heap[g]? = some (.cells cs t (0, 0)) → Below W.heap.size W w1 → wpList P ops Q rest (a.put o.dst (.slice (some ⟨g, 0, none⟩) n n)) w1) : wpList P ops Q (o :: rest) a W :=
  Kd.event_run hgd hrun (h _ rfl _ (heap_push_ W _) (below_alloc (Below.refl _ _) _))
/-- What is stored into cells of blocks of ok leaves every row's form. -/
def Shp (w W : World) (ok : Nat → Prop) : Prop := Kept w W ok ∧ ∀ (k : Nat) (cs : Array Value) (t : TypeId), w.heap[k]? = some (.cells cs t (0, 0)) → ∃ cs' : Array Value, W.heap[k]? = some (.cells cs' t (0, 0)) ∧ cs'.size = cs.size
theorem Shp.refl (w : World) (ok : Nat → Prop) : Shp w w ok := ⟨Kept.refl _ _, fun _ cs _ h => ⟨cs, h, rfl⟩⟩
theorem Shp.set {w W : World} {ok : Nat → Prop} (h : Shp w W ok) {g : Nat} (hg : ok g) (j : Nat) (u : Value) : Shp w (W.setCell ⟨g, j, none⟩ u) ok := by
  refine ⟨Kept.setCell h.1 (.inl hg) u, fun k cs t hk => ?_⟩
  obtain ⟨cs', h1, h2⟩ := h.2 k cs t hk
  by_cases hkg : k = g
  · subst hkg
    exact ⟨cs'.setIfInBounds j u, blk_put h1 j u rfl, by rw [Array.size_setIfInBounds]; exact h2⟩
  · exact ⟨cs', blk_far h1 (p := ⟨g, j, none⟩) hkg u, h2⟩
theorem Shp.cell {w W : World} {ok : Nat → Prop} (h : Shp w W ok) {g t j : Nat} {cs : Array Value} (hb : w.heap[g]? = some (.cells cs t (0, 0))) {v : Value} (hc : w.cell? ⟨g, j, none⟩ = some v) : (∃ v', W.cell? ⟨g, j, none⟩ = some v') ∧ W.frozen? ⟨g, j, none⟩ = false := by
  obtain ⟨cs', h1, h2⟩ := h.2 g cs t hb
  rw [blk_cell hb] at hc
  have hj : j < cs'.size := by rw [h2]; exact (Array.getElem?_eq_some_iff.1 hc).1
  exact ⟨⟨cs'[j], by rw [blk_cell h1, Array.getElem?_eq_getElem hj]⟩, blk_frozen h1 j⟩
theorem below_drew_ (W : World) : Below W.heap.size W W.drew := below_drew (Below.refl _ _)
namespace Tell
section
variable {α : Type} {d : Kd α} {w0 W W' : World} {L : List Cl} {x : Cl} {e lo hi' n cp g t i j b0 : Nat} {ok S : Nat → Prop} {vv : Value} {xs : List α} {A : Option Addr} {cz : Array Value}
theorem init (w : World) : Tell w w [] := ⟨Below.refl _ _, by simp, by simp, List.Pairwise.nil⟩
theorem step (h : Tell w0 W L) (hb : Below W.heap.size W W') : Tell w0 W' L :=
  ⟨below_step h.below hb, fun x hx => (h.foot x hx).step (fun k _ hlt => hb.block k hlt), fun x hx k hk => ⟨(h.lt x hx k hk).1, Nat.lt_of_lt_of_le (h.lt x hx k hk).2 hb.size⟩, h.apart⟩
theorem push (h : Tell w0 W L) (hb : Below W.heap.size W W') (hf : Foot x.P W' x.ok) (hx : ∀ k, x.ok k → W.heap.size ≤ k ∧ k < W'.heap.size) : Tell w0 W' (x :: L) := by
  have h1 := h.step hb
  refine ⟨h1.below, fun y hy => ?_, fun y hy k hk => ?_, ?_⟩
  · rcases List.mem_cons.1 hy with rfl | hy
    · exact hf
    · exact h1.foot y hy
  · rcases List.mem_cons.1 hy with rfl | hy
    · have := hx k hk; have := h.below.size; omega
    · exact h1.lt y hy k hk
  · refine List.pairwise_cons.2 ⟨fun y hy k hk hk' => ?_, h.apart⟩
    have := hx k hk; have := h.lt y hy k hk'; omega
theorem pushR (h : Tell w0 W L) (ho : d.R e W' W.heap.size ok vv xs) (hb : Below W.heap.size W W') : Tell w0 W' (cR d e w0.heap.size W.heap.size W'.heap.size vv xs :: L) :=
  h.push hb (fun W'' hW => Kd.R_step (Kd.R_mono (Kd.R_bound (Kd.R_lower (Kd.R_mono (Kd.R_bound ho) (fun k hk => hk)) h.below.size)) (fun k hk => ⟨hk.1.2.1, hk.2.2.1⟩)) hW) (fun k hk => hk)
theorem pushS (h : Tell w0 W L) (ho : Kd.S d e W' W.heap.size ok vv xs) (hb : Below W.heap.size W W') : Tell w0 W' (cS d e w0.heap.size W.heap.size W'.heap.size vv xs :: L) :=
  h.push hb (fun W'' hW => Kd.S_step (Kd.S_mono (Kd.S_bound (Kd.S_lower (Kd.S_bound ho) h.below.size)) (fun k hk => ⟨hk.1.2.1, hk.2.2.1⟩)) hW) (fun k hk => hk)
theorem pushV (h : Tell w0 W L) (ho : Kd.V d e W' b0 ok vv xs) (hb : Below W.heap.size W W') (hok : ∀ k, ok k → W.heap.size ≤ k) : Tell w0 W' (cV d e W.heap.size W'.heap.size vv xs :: L) :=
  h.push hb (fun W'' hW => Kd.V_step (Kd.V_mono (Kd.V_bound ho) (fun k hk => ⟨hok k hk.1, hk.2⟩)) hW) (fun k hk => hk)
theorem pushN (h : Tell w0 W L) (ho : Kd.N d e W' b0 (fun k => W.heap.size ≤ k) vv xs) (hb : Below W.heap.size W W') : Tell w0 W' (cV d e W.heap.size W'.heap.size vv xs :: L) := h.pushV (Kd.N_V (base' := 0) ho) hb (fun _ hk => hk)
theorem pushBe (h : Tell w0 W L) (hbox : W'.heap[g]? = some (.cells cz t (0, 0))) (hg : g = W.heap.size) (hb : Below W.heap.size W W') : Tell w0 W' (cB g cz t :: L) :=
  h.push hb (fun W'' hW => (hW g rfl (blk_lt hbox)).trans hbox) (fun k hk => by have := blk_lt hbox; have hk' : k = g := hk; omega)
theorem pushB (h : Tell w0 W L) (cz : Array Value) (t : Nat) : Tell w0 (W.alloc (.cells cz t (0, 0))) (cB W.heap.size cz t :: L) :=
  h.pushBe (heap_push_ W _) rfl (below_alloc (Below.refl _ _) _)
theorem ofB (hb : Below w0.heap.size w0 W) (hbox : W.heap[g]? = some (.cells cz t (0, 0))) (hg : w0.heap.size ≤ g) : Tell w0 W [cB g cz t] :=
  ⟨hb, fun x hx => by rw [List.mem_singleton.1 hx]; exact fun W'' hW => (hW g rfl (blk_lt hbox)).trans hbox, fun x hx k hk => by rw [List.mem_singleton.1 hx] at hk; have hk' : k = g := hk; subst hk'; exact ⟨hg, blk_lt hbox⟩, List.pairwise_singleton _ _⟩
theorem get (h : Tell w0 W L) (i : Nat) (hi : L[i]? = some x) : x.P W := (h.foot x (List.mem_of_getElem? hi)).now
theorem foot_ (h : Tell w0 W L) (i : Nat) (hi : L[i]? = some x) : Foot x.P W x.ok := h.foot x (List.mem_of_getElem? hi)
theorem rc (h : Tell w0 W L) (i : Nat) (hi : L[i]? = some (cR d e b0 lo hi' (.slice A n cp) xs)) : d.C W A xs.length xs := by
  have h2 := Kd.R_reads' (h.get i hi)
  rw [h2.1] at h2
  exact h2.2.2
theorem rl (h : Tell w0 W L) (i : Nat) (hi : L[i]? = some (cR d e b0 lo hi' (.slice A n cp) xs)) : xs.length ≤ cp := by
  have h2 := Kd.R_reads' (h.get i hi)
  rw [← h2.1]
  exact h2.2.1
theorem rv (h : Tell w0 W L) (i : Nat) (hi : L[i]? = some (cR d e b0 lo hi' (.slice A n cp) xs)) {b : Nat} : Kd.V d e W b (fun k => lo ≤ k ∧ k < hi') (.slice A n cp) xs := Kd.R_V (h.get i hi)
theorem vc (h : Tell w0 W L) (i : Nat) (hi : L[i]? = some (cV d e lo hi' (.slice A n cp) xs)) : d.C W A xs.length xs := by
  have h2 := Kd.V_reads' (e := e) (base := 0) (h.get i hi)
  rw [h2.1] at h2
  exact h2.2.2
theorem vl (h : Tell w0 W L) (i : Nat) (hi : L[i]? = some (cV d e lo hi' (.slice A n cp) xs)) : xs.length ≤ cp := by
  have h2 := Kd.V_reads' (e := e) (base := 0) (h.get i hi)
  rw [← h2.1]
  exact h2.2.1
theorem sc (h : Tell w0 W L) (i : Nat) (hi : L[i]? = some (cS d e b0 lo hi' (.slice A n cp) xs)) : d.C W A xs.length xs := by
  have h2 := Kd.S_reads' (h.get i hi)
  rw [h2.1] at h2
  exact h2.2.2
theorem sl (h : Tell w0 W L) (i : Nat) (hi : L[i]? = some (cS d e b0 lo hi' (.slice A n cp) xs)) : xs.length ≤ cp := by
  have h2 := Kd.S_reads' (h.get i hi)
  rw [← h2.1]
  exact h2.2.1
theorem bx (h : Tell w0 W L) (i : Nat) (hi : L[i]? = some (cB g cz t)) (j : Nat) : W.cell? ⟨g, j, none⟩ = cz[j]? := blk_cell (h.get i hi) j
theorem fz (h : Tell w0 W L) (i : Nat) (hi : L[i]? = some (cB g cz t)) (j : Nat) : W.frozen? ⟨g, j, none⟩ = false := blk_frozen (h.get i hi) j
theorem far (h : Tell w0 W L) (i : Nat) (hi : L[i]? = some x) {k : Nat} (hk : x.ok k) : k < W.heap.size ∧ w0.heap.size ≤ k := ⟨(h.lt x (List.mem_of_getElem? hi) k hk).2, (h.lt x (List.mem_of_getElem? hi) k hk).1⟩
theorem drop (h : Tell w0 W L) (i : Nat) (hi : L[i]? = some x) (hk : Kept W W' S) (hs : ∀ k, S k → x.ok k) (hb : Below w0.heap.size w0 W') : Tell w0 W' (L.eraseIdx i) := by
  have hsub := List.eraseIdx_sublist L i
  have hdis : ∀ y ∈ L.eraseIdx i, ∀ k, y.ok k → ¬ x.ok k := by
    intro y hy
    obtain ⟨j, hji, hj⟩ := List.mem_eraseIdx_iff_getElem?.1 hy
    have hp := List.pairwise_iff_getElem.1 h.apart
    obtain ⟨hl1, rfl⟩ := List.getElem?_eq_some_iff.1 hi
    obtain ⟨hl2, rfl⟩ := List.getElem?_eq_some_iff.1 hj
    rcases Nat.lt_or_ge j i with h1 | h1
    · exact hp j i hl2 hl1 h1
    · exact fun k hk hk' => hp i j hl1 hl2 (by omega) k hk' hk
  refine ⟨hb, fun y hy => (h.foot y (hsub.subset hy)).step (fun k ho hlt => hk.2 k hlt (fun h2 => hdis y hy k ho (hs k h2))), fun y hy k ho => ?_, h.apart.sublist hsub⟩
  have h1 := h.lt y (hsub.subset hy) k ho
  exact ⟨h1.1, Nat.lt_of_lt_of_le h1.2 hk.1⟩
theorem disj (h : Tell w0 W L) (i : Nat) (hi : L[i]? = some x) : ∀ (j : Nat) (y : Cl), L[j]? = some y → j ≠ i → ∀ k, y.ok k → ¬ x.ok k := by
  intro j y hj hji k hk hk'
  have hp := List.pairwise_iff_getElem.1 h.apart
  obtain ⟨hl1, rfl⟩ := List.getElem?_eq_some_iff.1 hi
  obtain ⟨hl2, rfl⟩ := List.getElem?_eq_some_iff.1 hj
  rcases Nat.lt_or_ge j i with h1 | h1
  · exact hp j i hl2 hl1 h1 k hk hk'
  · exact hp i j hl1 hl2 (by omega) k hk' hk
/-- What lay there may be written: nothing is told of it any more. -/
theorem forget (h : Tell w0 W L) (i : Nat) (hi : L[i]? = some x) : Tell w0 W (L.set i ⟨x.ok, fun _ => True⟩) := by
  have hp := List.pairwise_iff_getElem.1 h.apart
  obtain ⟨hl, hx⟩ := List.getElem?_eq_some_iff.1 hi
  have hmem : ∀ y ∈ L.set i ⟨x.ok, fun _ => True⟩, (y = ⟨x.ok, fun _ => True⟩) ∨ y ∈ L := fun y hy => by
    rcases List.mem_or_eq_of_mem_set hy with h1 | h1
    · exact .inr h1
    · exact .inl h1
  refine ⟨h.below, fun y hy => ?_, fun y hy k hk => ?_, ?_⟩
  · rcases hmem y hy with rfl | hm
    · exact fun _ _ => trivial
    · exact h.foot y hm
  · rcases hmem y hy with rfl | hm
    · exact h.lt x (List.mem_of_getElem? hi) k hk
    · exact h.lt y hm k hk
  · refine List.pairwise_iff_getElem.2 fun a b ha hb hab k hk hk' => ?_
    simp only [List.length_set] at ha hb
    rw [List.getElem_set] at hk hk'
    have := hp a b ha hb hab k
    by_cases h1 : i = a
    · rw [if_pos h1] at hk
      rw [if_neg (by omega)] at hk'
      subst h1
      exact this (by rw [hx]; exact hk) hk'
    · rw [if_neg h1] at hk
      by_cases h2 : i = b
      · rw [if_pos h2] at hk'
        subst h2
        exact this hk (by rw [hx]; exact hk')
      · rw [if_neg h2] at hk'
        exact this hk hk'
theorem keptAt (h : Tell w0 W L) (i : Nat) (hi : L[i]? = some ⟨ok, fun _ => True⟩) (hk : Kept W W' S) (hs : ∀ k, S k → ok k) (hb : Below w0.heap.size w0 W') : Tell w0 W' L := by
  refine ⟨hb, fun y hy => ?_, fun y hy k ho => ?_, h.apart⟩
  · obtain ⟨j, hj⟩ := List.mem_iff_getElem?.1 hy
    by_cases hji : j = i
    · subst hji
      rw [hi] at hj
      obtain rfl := Option.some.inj hj
      exact fun _ _ => trivial
    · exact (h.foot y hy).step (fun k ho hlt => hk.2 k hlt (fun h2 => h.disj i hi j y hj hji k ho (hs k h2)))
  · have h1 := h.lt y hy k ho
    exact ⟨h1.1, Nat.lt_of_lt_of_le h1.2 hk.1⟩
theorem put (h : Tell w0 W L) (i : Nat) {g : Nat} {cs : Array Value} {t : Nat} (hi : L[i]? = some (cB g cs t)) (j : Nat) (u : Value) : Tell w0 (W.setCell ⟨g, j, none⟩ u) (L.set i (cB g (cs.setIfInBounds j u) t)) := by
  have hp := List.pairwise_iff_getElem.1 h.apart
  obtain ⟨hl1, hx⟩ := List.getElem?_eq_some_iff.1 hi
  have hg := h.get i hi
  have hsz : (W.setCell ⟨g, j, none⟩ u).heap.size = W.heap.size := by simp [World.setCell]
  have hlt := h.lt _ (List.mem_of_getElem? hi) g rfl
  have hfar : ∀ y ∈ L.set i (cB g (cs.setIfInBounds j u) t), y = cB g (cs.setIfInBounds j u) t ∨ (y ∈ L ∧ ∀ k, y.ok k → k ≠ g) := by
    intro y hy
    obtain ⟨q, hq⟩ := List.mem_iff_getElem?.1 hy
    rw [List.getElem?_set] at hq
    by_cases hiq : i = q
    · rw [if_pos hiq] at hq
      subst hiq
      rw [if_pos hl1] at hq
      exact .inl (Option.some.inj hq).symm
    · rw [if_neg hiq] at hq
      refine .inr ⟨List.mem_of_getElem? hq, fun k hk hkg => ?_⟩
      obtain ⟨hl2, rfl⟩ := List.getElem?_eq_some_iff.1 hq
      subst hkg
      rcases Nat.lt_or_ge i q with h1 | h1
      · exact hp i q hl1 hl2 h1 k (by rw [hx]; rfl) hk
      · exact hp q i hl2 hl1 (by omega) k hk (by rw [hx]; rfl)
  refine ⟨h.below.setCell hlt.1 _, fun y hy => ?_, fun y hy k hk => ?_, ?_⟩
  · rcases hfar y hy with rfl | ⟨hm, hne⟩
    · have hb : (W.setCell ⟨g, j, none⟩ u).heap[g]? = some (.cells (cs.setIfInBounds j u) t (0, 0)) := blk_put hg j u rfl
      exact fun W'' hW => (hW g rfl (blk_lt hb)).trans hb
    · exact (h.foot y hm).step (fun k hk _ => Below.heap_setCell W _ _ k (hne k hk))
  · rw [hsz]
    rcases hfar y hy with rfl | ⟨hm, hne⟩
    · have hk' : k = g := hk
      subst hk'
      exact hlt
    · exact h.lt y hm k hk
  · refine List.pairwise_iff_getElem.2 fun a b ha hb hab k hk hk' => ?_
    simp only [List.length_set] at ha hb
    rw [List.getElem_set] at hk hk'
    have := hp a b ha hb hab k
    by_cases h1 : i = a
    · rw [if_pos h1] at hk
      rw [if_neg (by omega)] at hk'
      refine this ?_ hk'
      subst h1
      rw [hx]
      exact hk
    · rw [if_neg h1] at hk
      by_cases h2 : i = b
      · rw [if_pos h2] at hk'
        refine this hk ?_
        subst h2
        rw [hx]
        exact hk'
      · rw [if_neg h2] at hk'
        exact this hk hk'
end
end Tell
end Go.Proofs.Ytcfpbmdndapeaaa.T
