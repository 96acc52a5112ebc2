/- What a law's argument reads as: from the form's reading of memory ('DataW.trod') to the print's kinds ('Kd'), kind by kind: numbers, bools, texts, slices, structs. No condition. -/
import Derived.ChangeArms
import Derived.ChangeSame
import Derived.SizedLaws
import Derived.DataElems
import Derived.WideShapes
import Derived.Test.YtcfpbmdndapeaaaV
namespace Go.Proofs.Ytcfpbmdndapeaaa.X
open Go.RowKit Go.Proofs.YtcfpbmdndapeaaaV.PrintWords

/-- Whatever cells read as data of type t (no heavier than the form's reach) are those of a value of kind d of which V holds. -/
def Opens (P : Program) (t : TypeId) {α : Type} (d : Kd α) (V : α → Prop) : Prop :=
  ∀ (H : Type) (enc : TypeId × Value → H) (W : World) (fuel : Nat) (cs : List Value) (x : DataW H × List MemPlace),
    DataW.trod enc P W 0 (fun _ => true) true fuel t cs = some x → (∀ n ∈ x.1.weights P t, n ≤ reachBytes) → ∃ a : α, d.K W a cs ∧ V a

theorem opens_int {P : Program} {t : TypeId} {k : IntKind} (hu : P.underlying t = some (.int k)) : Opens P t (Kd.int k) (fun x => (Lit.int k x).wf = true) := by
  intro H enc W fuel cs x h _
  obtain ⟨n, rfl, _, hn⟩ := DataW.trod_int hu h
  exact ⟨n, rfl, hn⟩

theorem opens_bool {P : Program} {t : TypeId} (hu : P.underlying t = some .bool) : Opens P t Kd.bool (fun _ => True) := by
  intro H enc W fuel cs x h _
  obtain ⟨n, rfl, _⟩ := DataW.trod_bool hu h
  exact ⟨n, rfl, trivial⟩

theorem opens_string {P : Program} {t : TypeId} (hu : P.underlying t = some .string) : Opens P t Kd.string (fun s => s.size ≤ 140737488351232) := by
  intro H enc W fuel cs x h hw
  obtain ⟨s, rfl, rfl, _⟩ := DataW.trod_string hu h
  refine ⟨s, rfl, ?_⟩
  have := hw s.data.toList.length (by simp [DataW.weights])
  rw [data_length] at this
  exact this

theorem choose_list {α : Type} (Q : Nat → α → Prop) : ∀ n : Nat, (∀ i, i < n → ∃ a, Q i a) → ∃ xs : List α, xs.length = n ∧ ∀ i a, xs[i]? = some a → Q i a
  | 0, _ => ⟨[], rfl, fun i a h => by simp at h⟩
  | n + 1, h => by
    obtain ⟨xs, hl, hx⟩ := choose_list Q n (fun i hi => h i (by omega))
    obtain ⟨a, ha⟩ := h n (by omega)
    refine ⟨xs ++ [a], by simp [hl], fun i b hb => ?_⟩
    rcases Nat.lt_or_ge i n with hi | hi
    · rw [List.getElem?_append_left (by omega)] at hb
      exact hx i b hb
    · have hlt := (List.getElem?_eq_some_iff.1 hb).1
      rw [List.length_append, List.length_singleton, hl] at hlt
      have e : i = n := by omega
      subst e
      rw [List.getElem?_append_right (by omega), hl] at hb
      simp at hb
      subst hb
      exact ha

theorem weights_all {H : Type} {P : Program} {e : TypeId} : ∀ {l : List (DataW H)} {d : DataW H}, d ∈ l → ∀ n ∈ d.weights P e, n ∈ DataW.weightsAll P e l
  | [], _, h, _, _ => by simp at h
  | d0 :: l, d, h, n, hn => by
    simp only [DataW.weightsAll, List.mem_append]
    rcases List.mem_cons.1 h with rfl | h
    · exact .inl hn
    · exact .inr (weights_all h n hn)

theorem cells_at {w : World} {a : Addr} {n : Nat} {cs : List Value} (h : w.cells? 0 a n = some cs) : cs.length = n ∧ ∀ i u, cs[i]? = some u → w.cell? (a.add i) = some u := by
  unfold World.cells? at h
  rw [if_pos (Nat.zero_le _)] at h
  have hl := mapM_some_length h
  rw [List.length_range] at hl
  refine ⟨hl, fun i u hu => ?_⟩
  have hi : i < n := by have := (List.getElem?_eq_some_iff.1 hu).1; omega
  have := mapM_some_get h i i (by simp [hi])
  rw [this, hu]

theorem opens_slice {P : Program} {t e : TypeId} {α : Type} {d : Kd α} {V : α → Prop} {B : Nat} (hu : P.underlying t = some (.slice e)) (he : Opens P e d V) (hsz : P.cellsOf e = d.sz) (hb : P.bytesOf e = B) :
    Opens P t (Kd.slice e d) (fun xs => xs.length * B ≤ 140737488351232 ∧ ∀ x ∈ xs, V x) := by
  intro H enc W fuel cs x h hw
  rcases DataW.trod_slice hu h with ⟨rfl, rfl⟩ | ⟨a, len, cap, elems, rest, n, rfl, rfl, rfl, _, hl, hc, hel, hat, _, _⟩
  · exact ⟨[], ⟨none, 0, rfl, Nat.le_refl _, rfl, by simp, fun h => absurd h (by simp)⟩, by simp, by simp⟩
  · have hw' : ∀ y ∈ elems, ∀ m ∈ y.1.weights P e, m ≤ reachBytes := by
      intro y hy m hm
      refine hw m ?_
      simp only [DataW.weights, hu, List.mem_cons, List.mem_append]
      exact .inr (.inl (weights_all (List.mem_map_of_mem hy) m hm))
    have hlen : (elems.length + rest.length) * B ≤ 140737488351232 := by
      have := hw ((elems.length + rest.length) * B) (by simp [DataW.weights, hu, hb])
      exact this
    obtain ⟨xs, hxl, hx⟩ := choose_list (fun i p => ∃ cs', d.K W p cs' ∧ V p ∧ W.cells? 0 (a.add (i * P.cellsOf e)) (P.cellsOf e) = some cs') len (by
      intro i hi
      have h1 := hat i hi
      have h2 : i < elems.length := by omega
      rw [List.getElem?_eq_getElem h2] at h1
      obtain ⟨cs', hc1, hc2⟩ := Option.bind_eq_some_iff.1 h1
      obtain ⟨p, hp, hv⟩ := he H enc W n cs' _ hc2 (hw' _ (List.getElem_mem h2))
      exact ⟨p, cs', hp, hv, hc1⟩)
    refine ⟨xs, ⟨some a, cap, by rw [hxl], by omega, rfl, by unfold maxLen at hc; omega, fun _ => ⟨a, rfl, fun j p hj => ?_⟩⟩, ?_, ?_⟩
    · obtain ⟨cs', hp, _, hc1⟩ := hx j p hj
      refine ⟨cs', d.K_len hp, hp, fun i u hi => ?_⟩
      have := (cells_at hc1).2 i u hi
      rw [Addr.add_add, hsz] at this
      exact this
    · rw [hxl, ← hel]
      exact Nat.le_trans (Nat.mul_le_mul_right _ (Nat.le_add_right _ _)) hlen
    · intro p hp
      obtain ⟨i, hi, rfl⟩ := List.getElem_of_mem hp
      obtain ⟨_, _, hv, _⟩ := hx i _ (List.getElem?_eq_getElem hi)
      exact hv

/-- The fields of a struct, from offset 'off' on. -/
def OpensF (P : Program) (fs : List Field) (off : Nat) {α : Type} (d : Kd α) (V : α → Prop) : Prop :=
  ∀ (H : Type) (enc : TypeId × Value → H) (W : World) (n : Nat) (cs : List Value) (xs : List (DataW H × List MemPlace)), off + d.sz ≤ cs.length → xs.length = fs.length →
    (∀ (i : Nat) (f : Field), fs[i]? = some f → DataW.trod enc P W 0 (fun _ => true) true n f.type ((cs.drop f.offset).take (P.cellsOf f.type)) = xs[i]?) →
    (∀ m ∈ DataW.weightsEach P (fs.map (·.type)) (xs.map (·.1)), m ≤ reachBytes) → ∃ a : α, d.K W a ((cs.drop off).take d.sz) ∧ V a

theorem opensF_one {P : Program} {f : Field} {off : Nat} {α : Type} {d : Kd α} {V : α → Prop} (ho : f.offset = off) (hs : P.cellsOf f.type = d.sz) (h : Opens P f.type d V) : OpensF P [f] off d V := by
  intro H enc W n cs xs hl hxl hx hw
  match xs, hxl with
  | [x], _ =>
    have h1 := hx 0 f rfl
    rw [ho, hs] at h1
    refine h H enc W n _ x h1 (fun m hm => hw m ?_)
    simp [DataW.weightsEach, hm]

theorem opensF_cons {P : Program} {f : Field} {fs : List Field} {off : Nat} {α β : Type} {d : Kd α} {d' : Kd β} {V : α → Prop} {V' : β → Prop} (ho : f.offset = off) (hs : P.cellsOf f.type = d.sz) (h : Opens P f.type d V) (h' : OpensF P fs (off + d.sz) d' V') :
    OpensF P (f :: fs) off (Kd.pair d d') (fun x => V x.1 ∧ V' x.2) := by
  intro H enc W n cs xs hl hxl hx hw
  have hl' : off + (d.sz + d'.sz) ≤ cs.length := hl
  match xs, hxl with
  | x :: xs, hxl =>
    have h1 := hx 0 f rfl
    rw [ho, hs] at h1
    obtain ⟨a, ha, hva⟩ := h H enc W n _ x h1 (fun m hm => hw m (by simp [DataW.weightsEach, hm]))
    obtain ⟨b, hb, hvb⟩ := h' H enc W n cs xs (by omega) (by simpa using hxl) (fun i g hg => by simpa using hx (i + 1) g (by simpa using hg)) (fun m hm => hw m (by simp only [List.map_cons, DataW.weightsEach, List.mem_append]; exact .inr hm))
    refine ⟨(a, b), ⟨_, _, ?_, ha, hb⟩, hva, hvb⟩
    show (cs.drop off).take (d.sz + d'.sz) = _
    rw [List.take_add, List.drop_drop]

theorem opens_struct {P : Program} {t : TypeId} {fs : Array Field} {α β : Type} {d : Kd α} {V : α → Prop} {f : β → α} (hu : P.underlying t = some (.struct fs)) (h : OpensF P fs.toList 0 d V) (hc : P.cellsOf t = d.sz) (hf : ∀ a, ∃ b, f b = a) : Opens P t (Kd.iso d f) (fun b => V (f b)) := by
  intro H enc W fuel cs x hx hw
  obtain ⟨xs, n, rfl, rfl, hl, hxl, hat⟩ := DataW.trod_struct hu hx
  obtain ⟨a, ha, hv⟩ := h H enc W n cs xs (by rw [hl, hc]; omega) (by simpa using hxl) (fun i g hg => hat i g (by simpa using hg)) (fun m hm => hw m (by simpa [DataW.weights, hu] using hm))
  obtain ⟨b, rfl⟩ := hf a
  refine ⟨b, ?_, hv⟩
  rw [List.drop_zero, ← hc, ← hl, List.take_length] at ha
  exact ha

theorem Opens.imp {P : Program} {t : TypeId} {α : Type} {d : Kd α} {V V' : α → Prop} (h : Opens P t d V) (hv : ∀ a, V a → V' a) : Opens P t d V' := by
  intro H enc W fuel cs x hx hw
  obtain ⟨a, ha, hva⟩ := h H enc W fuel cs x hx hw
  exact ⟨a, ha, hv a hva⟩

/-- An argument of the law: its value's cells are those of a value of the kind. -/
theorem Opens.arg {P : Program} {t : TypeId} {α : Type} {d : Kd α} {V : α → Prop} (h : Opens P t d V) {H : Type} {enc : TypeId × Value → H} {W : World} {ts : List TypeId} {ds : List (DataW H)} {j : Nat} {v : Value} {dt : DataW H} {ps : List MemPlace}
    (hsz : (DataW.weightsEach P ts ds).all (· ≤ reachBytes) = true) (ht : ts[j]? = some t) (hd : ds[j]? = some dt) (hx : DataW.Trod enc P W 0 (fun _ => true) true t v dt ps) : ∃ a, d.K W a v.cells.toList ∧ V a := by
  obtain ⟨fuel, hf⟩ := hx
  exact h H enc W fuel _ _ hf (fun n hn => by simpa using List.all_eq_true.1 hsz _ (DataW.weights_mem_each ht hd n hn))

/-- A struct's value is its cells; a slice's, a number's, a bool's, a text's is the one cell. -/
theorem agg_of {v : Value} {cs : Array Value} {l : List Value} (hv : v = .agg cs) (h : v.cells.toList = l) : v = .agg l.toArray := by
  subst hv
  subst h
  simp [Value.cells]
theorem one_of {v u : Value} (_hu : u.oneCell' = true) (hv : ∀ cs, v ≠ .agg cs) (h : v.cells.toList = [u]) : v = u := by
  cases v <;> first | exact absurd rfl (hv _) | (simp [Value.cells] at h; exact h)

end Go.Proofs.Ytcfpbmdndapeaaa.X
