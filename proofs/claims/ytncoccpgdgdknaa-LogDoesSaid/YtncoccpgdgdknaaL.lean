/- What the functions of chapter 23 compute, in plain words over lists: texts compared, the common beginning, rows joined, put and cut. No condition but sizes. -/
import Derived.Test.YtncoccpgdgdknaaF11
import Derived.Test.YtncoccpgdgdknaaF8
import Derived.Test.YtncoccpgdgdknaaF1
namespace Go.Proofs.Ytncoccpgdgdknaa.F
open Go.RowKit Go.Proofs.YtncoccpgdgdknaaV.PrintWords Go.Proofs.YtncoccpgdgdknaaV.PrintLast
abbrev Key := List UInt8
def ks (a : List ByteArray) : List Key := a.map ByteArray.toList
theorem ks_len (a : List ByteArray) : (ks a).length = a.length := List.length_map _
theorem ks_app (a b : List ByteArray) : ks (a ++ b) = ks a ++ ks b := List.map_append
theorem ks_take (a : List ByteArray) (n : Nat) : ks (a.take n) = (ks a).take n := List.map_take
theorem ks_drop (a : List ByteArray) (n : Nat) : ks (a.drop n) = (ks a).drop n := List.map_drop
theorem ks_rd (a : List ByteArray) (i : Nat) (h : i < a.length) : (ks a)[i]'(by rw [ks_len]; exact h) = (rdOf ByteArray.empty a (i : Int)).toList := by
  simp [ks, rdOf, List.getD_eq_getElem?_getD, List.getElem?_eq_getElem h]
theorem wr1 {i : Int} (h : 0 ≤ i) (h' : i < 9223372036854775807) : wrap64 (i + 1) = i + 1 := by unfold wrap64; omega
theorem ev_pos {α : Type} {c : Prop} [Decidable c] {A B : Nat → Option α} {r : α} (h : c) (e : Ev A r) : Ev (fun k => if c then A k else B k) r := by
  simp only [if_pos h]; exact e
theorem ev_neg {α : Type} {c : Prop} [Decidable c] {A B : Nat → Option α} {r : α} (h : ¬ c) (e : Ev B r) : Ev (fun k => if c then A k else B k) r := by
  simp only [if_neg h]; exact e
/-! ### texts compared -/
theorem texts_l0 (a b : List ByteArray) (hl : a.length = b.length) (hb : a.length < 9223372036854775807) : ∀ (d i : Nat), i + d = a.length →
    Ev (fun k => watchmanref01_Texts.l0 k a b (i : Int)) (decide ((ks a).drop i = (ks b).drop i)) := by
  intro d
  induction d with
  | zero =>
    intro i hi
    refine Ev.step (f := fun _ => some true) (fun k => ?_) ?_
    · simp only [watchmanref01_Texts.l0]
      rw [if_neg (by omega)]
    · have e : decide ((ks a).drop i = (ks b).drop i) = true := by
        rw [List.drop_eq_nil_of_le (by rw [ks_len]; omega), List.drop_eq_nil_of_le (by rw [ks_len]; omega)]; simp
      rw [e]; exact Ev.now _
  | succ d ih =>
    intro i hi
    have ea := List.drop_eq_getElem_cons (l := ks a) (i := i) (by rw [ks_len]; omega)
    have eb := List.drop_eq_getElem_cons (l := ks b) (i := i) (by rw [ks_len]; omega)
    rw [ks_rd a i (by omega)] at ea
    rw [ks_rd b i (by omega)] at eb
    rw [ea, eb]
    by_cases he : (rdOf ByteArray.empty a (i : Int)).toList = (rdOf ByteArray.empty b (i : Int)).toList
    · refine Ev.step (f := fun k => watchmanref01_Texts.l0 k a b ((i + 1 : Nat) : Int)) (fun k => ?_) ?_
      · simp only [watchmanref01_Texts.l0]
        rw [if_pos (by omega), if_pos (by omega), if_pos (by omega), if_pos he, wr1 (by omega) (by omega)]
        rfl
      · have := ih (i + 1) (by omega)
        rw [he]
        simpa using this
    · refine Ev.step (f := fun _ => some false) (fun k => ?_) ?_
      · simp only [watchmanref01_Texts.l0]
        rw [if_pos (by omega), if_pos (by omega), if_pos (by omega), if_neg he]
      · have e : decide ((rdOf ByteArray.empty a (i : Int)).toList :: (ks a).drop (i + 1) = (rdOf ByteArray.empty b (i : Int)).toList :: (ks b).drop (i + 1)) = false := by
          simp [he]
        rw [e]; exact Ev.now _
theorem texts_ev (a b : List ByteArray) (hb : a.length < 9223372036854775807) : Ev (fun k => watchmanref01_Texts.f k a b) (decide (ks a = ks b)) := by
  unfold watchmanref01_Texts.f
  by_cases hl : a.length = b.length
  · have := texts_l0 a b hl hb a.length 0 (by omega)
    refine Ev.congr (f := fun k => watchmanref01_Texts.l0 k a b 0) (fun k => ?_) (by simpa using this)
    rw [if_pos (by omega)]
  · refine Ev.congr (f := fun _ => some false) (fun k => ?_) ?_
    · rw [if_neg (by omega)]
    · have e : decide (ks a = ks b) = false := by
        refine decide_eq_false fun h => hl ?_
        have := congrArg List.length h
        rwa [ks_len, ks_len] at this
      rw [e]; exact Ev.now _
/-! ### what is looked at -/
theorem short_l0 (a : List ByteArray) (hb : a.length < 9223372036854775807) : ∀ (d i : Nat), i + d = a.length →
    ∃ b, Ev (fun k => watchmanref01_Short.l0 k a (i : Int)) b ∧ (b = true → a.length ≤ 60) := by
  intro d
  induction d with
  | zero =>
    intro i hi
    refine ⟨decide ((a.length : Int) ≤ 60), Ev.step (f := fun _ => some (decide ((a.length : Int) ≤ 60))) (fun k => ?_) (Ev.now _), fun h => ?_⟩
    · simp only [watchmanref01_Short.l0]
      rw [if_neg (by omega)]
    · have := of_decide_eq_true h; omega
  | succ d ih =>
    intro i hi
    by_cases he : ((rdOf ByteArray.empty a (i : Int)).size : Int) > 300
    · refine ⟨false, Ev.step (f := fun _ => some false) (fun k => ?_) (Ev.now _), fun h => by cases h⟩
      simp only [watchmanref01_Short.l0]
      rw [if_pos (by omega), if_pos (by omega), if_pos he]
    · obtain ⟨b, h1, h2⟩ := ih (i + 1) (by omega)
      refine ⟨b, Ev.step (f := fun k => watchmanref01_Short.l0 k a ((i + 1 : Nat) : Int)) (fun k => ?_) h1, h2⟩
      simp only [watchmanref01_Short.l0]
      rw [if_pos (by omega), if_pos (by omega), if_neg he, wr1 (by omega) (by omega)]
      rfl
theorem short_ev (a : List ByteArray) (hb : a.length < 9223372036854775807) : ∃ b, Ev (fun k => watchmanref01_Short.f k a) b ∧ (b = true → a.length ≤ 60) :=
  short_l0 a hb a.length 0 (by omega)
theorem far_ev (a : List ByteArray) (hb : a.length < 9223372036854775807) : ∃ b, Ev (fun k => watchmanlaw23_far.f k a) b ∧ (b = false → a.length ≤ 60) := by
  obtain ⟨b, h1, h2⟩ := short_ev a hb
  refine ⟨!b, Ev.bind (f := fun _ t => some (!t)) h1 (Ev.now _), fun h => h2 (by simpa using h)⟩
/-! ### the common beginning -/
def cp : List Key → List Key → Nat
  | x :: xs, y :: ys => if x = y then cp xs ys + 1 else 0
  | _, _ => 0
theorem le_cp : ∀ (a b : List Key) (n : Nat), n ≤ cp a b ↔ n ≤ a.length ∧ n ≤ b.length ∧ a.take n = b.take n
  | [], b, n => by cases n <;> simp [cp]
  | x :: xs, [], n => by cases n <;> simp [cp]
  | x :: xs, y :: ys, 0 => by simp
  | x :: xs, y :: ys, n + 1 => by
    simp only [cp, List.length_cons, List.take_succ_cons, List.cons.injEq]
    by_cases h : x = y
    · rw [if_pos h]
      have := le_cp xs ys n
      constructor
      · intro h1
        obtain ⟨h2, h3, h4⟩ := this.1 (by omega)
        exact ⟨by omega, by omega, h, h4⟩
      · rintro ⟨h1, h2, h3, h4⟩
        have := this.2 ⟨by omega, by omega, h4⟩
        omega
    · rw [if_neg h]
      constructor
      · intro h1; omega
      · rintro ⟨h1, h2, h3, h4⟩; exact absurd h3 h
/-- What the first row has in common with all others. -/
def cs (a : List Key) (r : List (List Key)) : Nat := r.foldr (fun m n => min (cp a m) n) a.length
theorem le_cs (a : List Key) : ∀ (r : List (List Key)) (n : Nat), n ≤ cs a r ↔ n ≤ a.length ∧ ∀ m ∈ r, n ≤ cp a m
  | [], n => by simp [cs]
  | m :: r, n => by
    have := le_cs a r n
    unfold cs at this ⊢
    rw [List.foldr_cons, Nat.le_min, this]
    simp only [List.mem_cons, forall_eq_or_imp]
    constructor
    · rintro ⟨h1, h2, h3⟩; exact ⟨h2, h1, h3⟩
    · rintro ⟨h1, h2, h3⟩; exact ⟨h2, h1, h3⟩
/-- one more place -/
theorem cp_succ (a m : List Key) (i : Nat) (h : i ≤ cp a m) : i + 1 ≤ cp a m ↔ ∃ (h1 : i < a.length) (h2 : i < m.length), m[i] = a[i] := by
  have h0 := (le_cp a m i).1 h
  rw [le_cp]
  constructor
  · rintro ⟨h1, h2, h3⟩
    refine ⟨by omega, by omega, ?_⟩
    have e := congrArg (fun l => l[i]?) h3
    simp only [List.getElem?_take, Nat.lt_succ_self, if_true] at e
    rw [List.getElem?_eq_getElem (by omega), List.getElem?_eq_getElem (by omega)] at e
    exact (Option.some.inj e).symm
  · rintro ⟨h1, h2, h3⟩
    refine ⟨by omega, by omega, ?_⟩
    rw [List.take_succ_eq_append_getElem h1, List.take_succ_eq_append_getElem h2, h0.2.2, h3]
theorem rdL (x : List (List ByteArray)) (j : Nat) (h : j < x.length) : rd_L2 x (j : Int) = x[j] := by
  simp [rd_L2, List.getD_eq_getElem?_getD, List.getElem?_eq_getElem h]
def cm (a : List ByteArray) (r : List (List ByteArray)) : Nat := cs (ks a) (r.map ks)
theorem le_cm (a : List ByteArray) (r : List (List ByteArray)) (n : Nat) : n ≤ cm a r ↔ n ≤ a.length ∧ ∀ m ∈ r, n ≤ cp (ks a) (ks m) := by
  unfold cm; rw [le_cs, ks_len]; simp
theorem cp_more (a m : List ByteArray) (i : Nat) (h : i ≤ cp (ks a) (ks m)) (ha : i < a.length) :
    i + 1 ≤ cp (ks a) (ks m) ↔ i < m.length ∧ (rdOf ByteArray.empty m (i : Int)).toList = (rdOf ByteArray.empty a (i : Int)).toList := by
  rw [cp_succ _ _ _ h]
  constructor
  · rintro ⟨h1, h2, h3⟩
    rw [ks_len] at h1 h2
    rw [ks_rd _ _ h1, ks_rd _ _ h2] at h3
    exact ⟨h2, h3⟩
  · rintro ⟨h2, h3⟩
    refine ⟨by rw [ks_len]; exact ha, by rw [ks_len]; exact h2, ?_⟩
    rw [ks_rd _ _ ha, ks_rd _ _ h2]; exact h3
theorem common_l1 (a : List ByteArray) (r : List (List ByteArray)) (i : Nat) (hi : i < a.length) (ha : a.length < 4611686018427387904) (hr : r.length < 4611686018427387904) (hic : i ≤ cm a r)
    (hout : i + 1 ≤ cm a r → Ev (fun k => log_Common.l0 k (a :: r) a (a.length : Int) ((i + 1 : Nat) : Int)) (cm a r : Int)) :
    ∀ (d j : Nat), j + d = r.length → (∀ m ∈ r.take j, i + 1 ≤ cp (ks a) (ks m)) →
    Ev (fun k => log_Common.l1 k (a :: r) (i : Int) (rdOf ByteArray.empty a (i : Int)) a (a.length : Int) (i : Int) r (r.length : Int) (j : Int)) (cm a r : Int) := by
  intro d
  induction d with
  | zero =>
    intro j hj hall
    refine Ev.step (f := fun k => log_Common.l0 k (a :: r) a (a.length : Int) ((i + 1 : Nat) : Int)) (fun k => ?_) (hout ?_)
    · simp only [log_Common.l1]
      rw [if_neg (by omega), wr1 (by omega) (by omega)]
      rfl
    · rw [List.take_of_length_le (by omega)] at hall
      exact (le_cm a r _).2 ⟨hi, hall⟩
  | succ d ih =>
    intro j hj hall
    have hjl : j < r.length := by omega
    have hm : r[j] ∈ r := List.getElem_mem hjl
    have hcp : i ≤ cp (ks a) (ks r[j]) := ((le_cm a r i).1 hic).2 _ hm
    have hmore := cp_more a r[j] i hcp hi
    have hno : ¬ (i + 1 ≤ cp (ks a) (ks r[j])) → cm a r = i := fun h => by
      rcases Nat.lt_or_ge i (cm a r) with h1 | h1
      · exact absurd (((le_cm a r (i + 1)).1 h1).2 _ hm) h
      · omega
    by_cases h1 : i < r[j].length
    · by_cases h2 : (rdOf ByteArray.empty r[j] (i : Int)).toList = (rdOf ByteArray.empty a (i : Int)).toList
      · refine Ev.step (f := fun k => log_Common.l1 k (a :: r) (i : Int) (rdOf ByteArray.empty a (i : Int)) a (a.length : Int) (i : Int) r (r.length : Int) ((j + 1 : Nat) : Int)) (fun k => ?_) (ih (j + 1) (by omega) ?_)
        · simp only [log_Common.l1]
          rw [rdL r j hjl, if_pos (by omega), if_pos (by omega), if_pos (by omega), if_neg (by omega), if_pos (by omega), if_pos (by omega), if_pos h2, wr1 (by omega) (by omega)]
          rfl
        · intro m hm2
          rw [List.take_succ_eq_append_getElem hjl, List.mem_append] at hm2
          rcases hm2 with hm2 | hm2
          · exact hall m hm2
          · obtain rfl := List.mem_singleton.1 hm2
            exact hmore.2 ⟨h1, h2⟩
      · rw [hno (fun h => h2 (hmore.1 h).2)]
        refine Ev.step (f := fun _ => some (i : Int)) (fun k => ?_) (Ev.now _)
        simp only [log_Common.l1]
        rw [rdL r j hjl, if_pos (by omega), if_pos (by omega), if_pos (by omega), if_neg (by omega), if_pos (by omega), if_pos (by omega), if_neg h2]
    · rw [hno (fun h => h1 (hmore.1 h).1)]
      refine Ev.step (f := fun _ => some (i : Int)) (fun k => ?_) (Ev.now _)
      simp only [log_Common.l1]
      rw [rdL r j hjl, if_pos (by omega), if_pos (by omega), if_pos (by omega), if_pos (by omega)]
theorem common_l0 (a : List ByteArray) (r : List (List ByteArray)) (ha : a.length < 4611686018427387904) (hr : r.length < 4611686018427387904) :
    ∀ (d i : Nat), i + d = a.length → i ≤ cm a r → Ev (fun k => log_Common.l0 k (a :: r) a (a.length : Int) (i : Int)) (cm a r : Int) := by
  intro d
  induction d with
  | zero =>
    intro i hi hic
    have e : cm a r = a.length := by
      have := ((le_cm a r _).1 (Nat.le_refl _)).1
      omega
    rw [e]
    refine Ev.step (f := fun _ => some (a.length : Int)) (fun k => ?_) (Ev.now _)
    simp only [log_Common.l0]
    rw [if_neg (by omega), if_pos (by simp)]
    rfl
  | succ d ih =>
    intro i hi hic
    refine Ev.step (f := fun k => log_Common.l1 k (a :: r) (i : Int) (rdOf ByteArray.empty a (i : Int)) a (a.length : Int) (i : Int) r (r.length : Int) ((0 : Nat) : Int)) (fun k => ?_) (common_l1 a r i (by omega) ha hr hic (fun h => ih (i + 1) (by omega) h) r.length 0 (by omega) (by simp))
    simp only [log_Common.l0]
    rw [if_pos (by omega), if_pos (by omega), if_pos (by omega), if_pos (by simp; omega)]
    rfl
theorem common_ev (a : List ByteArray) (r : List (List ByteArray)) (ha : a.length < 4611686018427387904) (hr : r.length < 4611686018427387904) : Ev (fun k => log_Common.f k (a :: r)) (cm a r : Int) := by
  refine Ev.congr (f := fun k => log_Common.l0 k (a :: r) a (a.length : Int) ((0 : Nat) : Int)) (fun k => ?_) (common_l0 a r ha hr a.length 0 (by omega) (Nat.zero_le _))
  unfold log_Common.f
  rw [if_neg (by simp; try omega), if_pos (by simp; try omega)]
  rfl
/-- one row begins with another -/
def pre (a b : List ByteArray) : Bool := decide (cp (ks a) (ks b) = a.length)
theorem cm_two (a b : List ByteArray) : cm a [b] = cp (ks a) (ks b) := by
  have h1 := (le_cm a [b] (cm a [b])).1 (Nat.le_refl _)
  have h2 := (le_cm a [b] (cp (ks a) (ks b))).2 ⟨by have := ((le_cp (ks a) (ks b) _).1 (Nat.le_refl _)).1; rwa [ks_len] at this, by simp⟩
  have := h1.2 b (by simp)
  omega
theorem front_ev (a b : List ByteArray) (ha : a.length < 4611686018427387904) : Ev (fun k => log_Front.f k a b) (pre a b) := by
  unfold log_Front.f
  refine Ev.bind (f := fun _ t115 => some (t115 == (a.length : Int))) (common_ev a [b] ha (by simp)) ?_
  have e : ((cm a [b] : Int) == (a.length : Int)) = pre a b := by
    rw [cm_two]
    unfold pre
    by_cases h : cp (ks a) (ks b) = a.length
    · simp [h]
    · have : ¬ ((cp (ks a) (ks b) : Int) = (a.length : Int)) := by omega
      simp [h, this]
  rw [e]; exact Ev.now _
theorem pre_iff (a b : List ByteArray) : pre a b = true ↔ ks a = (ks b).take a.length := by
  unfold pre
  rw [decide_eq_true_eq]
  have h := le_cp (ks a) (ks b) a.length
  have h' := (le_cp (ks a) (ks b) (cp (ks a) (ks b))).1 (Nat.le_refl _)
  rw [ks_len] at h'
  rw [ks_len, ks_len] at h
  have et : (ks a).take a.length = ks a := List.take_of_length_le (by rw [ks_len]; exact Nat.le_refl _)
  rw [et] at h
  constructor
  · intro e; exact (h.1 (by omega)).2.2
  · intro e
    have hl : a.length ≤ b.length := by
      have := congrArg List.length e
      rw [ks_len, List.length_take, ks_len] at this
      omega
    have := h.2 ⟨Nat.le_refl _, hl, e⟩
    omega
end Go.Proofs.Ytncoccpgdgdknaa.F
