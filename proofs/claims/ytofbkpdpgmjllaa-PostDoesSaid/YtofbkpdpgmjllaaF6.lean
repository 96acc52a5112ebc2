-- Written by a program of this session (xprint.py), out of the translation and of contracts proved by hand.
import Derived.Test.YtofbkpdpgmjllaaF0
import Derived.Test.YtofbkpdpgmjllaaF5
namespace Go.Proofs.Ytofbkpdpgmjllaa.F
open Go.RowKit Go.Proofs.YtofbkpdpgmjllaaV.PrintWords Go.Proofs.YtofbkpdpgmjllaaV.PrintLast Go.Proofs.YtofbkpdpgmjllaaV.PrintMore
attribute [local go_sem] max2_int min2_int max_two min_two max_three min_three max_four min_four   -- for this text's walks alone
set_option linter.unusedVariables false
set_option linter.unusedSimpArgs false

/-! ### post_room: function 32 -/
def cnt (n : Int) (l : List S35) : Nat := (l.filter (toP n)).length
/-- The first j letters to n let go. -/
def dropTo (n : Int) : Nat → List S35 → List S35
  | 0, l => l
  | _ + 1, [] => []
  | j + 1, x :: l => if toP n x = true then dropTo n j l else x :: dropTo n (j + 1) l
theorem dropTo_zero (n : Int) (l : List S35) : dropTo n 0 l = l := by cases l <;> rfl
theorem dropTo_nil (n : Int) (j : Nat) : dropTo n j [] = [] := by cases j <;> rfl
theorem dropTo_sub (n : Int) : ∀ (l : List S35) (j : Nat), (dropTo n j l).Sublist l
  | l, 0 => by rw [dropTo_zero]; exact List.Sublist.refl _
  | [], j + 1 => List.Sublist.refl _
  | x :: l, j + 1 => by
    unfold dropTo
    split
    · exact (dropTo_sub n l j).cons x
    · exact (dropTo_sub n l (j + 1)).cons_cons x
theorem dropTo_len (n : Int) : ∀ (l : List S35) (j : Nat), j ≤ cnt n l → (dropTo n j l).length + j = l.length
  | l, 0, _ => by rw [dropTo_zero]; rfl
  | [], j + 1, h => by simp [cnt] at h
  | x :: l, j + 1, h => by
    unfold dropTo
    unfold cnt at h
    rw [List.filter_cons] at h
    by_cases hx : toP n x = true
    · rw [if_pos hx] at h ⊢
      have := dropTo_len n l j (by simp only [List.length_cons] at h; unfold cnt; omega)
      simp only [List.length_cons]; omega
    · rw [if_neg hx] at h ⊢
      have := dropTo_len n l (j + 1) h
      simp only [List.length_cons]; omega
theorem dropTo_cnt (n : Int) : ∀ (l : List S35) (j : Nat), cnt n (dropTo n j l) = cnt n l - j
  | l, 0 => by rw [dropTo_zero]; rfl
  | [], j + 1 => by simp [cnt, dropTo]
  | x :: l, j + 1 => by
    unfold dropTo
    by_cases hx : toP n x = true
    · rw [if_pos hx, dropTo_cnt n l j]
      unfold cnt; rw [List.filter_cons, if_pos hx, List.length_cons]; omega
    · rw [if_neg hx]
      have := dropTo_cnt n l (j + 1)
      unfold cnt at this ⊢
      rw [List.filter_cons, if_neg hx, List.filter_cons, if_neg hx]; exact this
theorem dropTo_erase (n : Int) : ∀ (l : List S35) (j : Nat), j < cnt n l → (dropTo n j l).eraseP (toP n) = dropTo n (j + 1) l
  | l, 0, h => by
    induction l with
    | nil => rfl
    | cons x l ih =>
      unfold dropTo
      by_cases hx : toP n x = true
      · rw [if_pos hx, List.eraseP_cons_of_pos hx]; cases l <;> rfl
      · rw [if_neg hx, List.eraseP_cons_of_neg hx]
        congr 1
        have := ih (by unfold cnt at h; rw [List.filter_cons, if_neg hx] at h; exact h)
        simpa [dropTo] using this
  | [], j + 1, h => by simp [cnt] at h
  | x :: l, j + 1, h => by
    unfold dropTo
    by_cases hx : toP n x = true
    · rw [if_pos hx, if_pos hx]
      exact dropTo_erase n l j (by unfold cnt at h ⊢; rw [List.filter_cons, if_pos hx] at h; simp only [List.length_cons] at h; omega)
    · rw [if_neg hx, if_neg hx, List.eraseP_cons_of_neg hx, dropTo_erase n l (j + 1) (by unfold cnt at h ⊢; rw [List.filter_cons, if_neg hx] at h; exact h)]
theorem dropTo_mem (n : Int) (l : List S35) (j : Nat) {x : S35} (h : x ∈ dropTo n j l) : x ∈ l := (dropTo_sub n l j).subset h
def roomL (n : Int) (l : List S35) : List S35 := dropTo n (cnt n l - 19) l
def roomN (n : Int) (l : List S35) : Nat := cnt n l - 19
theorem roomL_sub (t : Int) (l : List S35) : (roomL t l).Sublist l := dropTo_sub _ _ _
theorem roomL_len (t : Int) (l : List S35) : (roomL t l).length + roomN t l = l.length := dropTo_len _ _ _ (by omega)
theorem roomL_cnt (t : Int) (l : List S35) : cnt t (roomL t l) ≤ 19 := by unfold roomL; rw [dropTo_cnt]; omega
theorem cnt_le (t : Int) (l : List S35) : cnt t l ≤ l.length := List.length_filter_le _ _
theorem cnt_snoc (t : Int) (l : List S35) (x : S35) : cnt t (l ++ [x]) ≤ cnt t l + 1 := by
  unfold cnt; rw [List.filter_append, List.length_append]
  have := List.length_filter_le (toP t) [x]
  simp only [List.length_singleton] at this
  omega
theorem eraseP_at {α : Type} (p : α → Bool) : ∀ (l : List α) (q : Nat) (hq : q < l.length), p l[q] = true → (∀ i, (hi : i < q) → p (l[i]'(by omega)) = false) → l.eraseP p = l.eraseIdx q
  | [], q, hq, _, _ => absurd hq (Nat.not_lt_zero _)
  | x :: l, 0, _, h, _ => by rw [List.eraseP_cons_of_pos (by simpa using h)]; rfl
  | x :: l, q + 1, hq, h, hn => by
    have h0 : p x = false := hn 0 (Nat.zero_lt_succ _)
    rw [List.eraseP_cons_of_neg (by rw [h0]; decide), List.eraseIdx_cons_succ, eraseP_at p l q (by simpa using hq) (by simpa using h) (fun i hi => by have := hn (i + 1) (by omega); simpa using this)]
/-- The place of the first letter to one, of those that have come. -/
def fstP {m : Nat} : List (Fin m) → Int
  | [] => 0
  | i :: _ => (i.1 : Int)
theorem fstP_snoc {m : Nat} (pre : List (Fin m)) (x : Fin m) (h : pre ≠ []) : fstP (pre ++ [x]) = fstP pre := by
  cases pre with
  | nil => exact absurd rfl h
  | cons i pre => rfl
theorem places_first (n : Int) (l : List S35) (h : 0 < cnt n l) : ∃ q : Nat, fstP (places n l l.length) = (q : Int) ∧ q < l.length ∧ l.eraseP (toP n) = l.eraseIdx q := by
  have key : ∀ k, k ≤ l.length → (places n l k = [] ∧ ∀ i, (hi : i < l.length) → i < k → toP n l[i] = false) ∨ ∃ q : Nat, ∃ hq : q < l.length, fstP (places n l k) = (q : Int) ∧ places n l k ≠ [] ∧ toP n l[q] = true ∧ ∀ i, (hi : i < q) → toP n (l[i]'(by omega)) = false := by
    intro k
    induction k with
    | zero => intro _; exact .inl ⟨rfl, fun i _ hi => absurd hi (Nat.not_lt_zero _)⟩
    | succ k ih =>
      intro hk
      rcases ih (by omega) with ⟨h1, h2⟩ | ⟨q, hq, h1, h2, h3, h4⟩
      · rw [places_succ n l k (by omega), h1]
        by_cases ht : toP n (l[k]'(by omega)) = true
        · rw [if_pos ht]
          exact .inr ⟨k, by omega, rfl, by simp, ht, fun i hi => h2 i (by omega) hi⟩
        · rw [if_neg ht]
          refine .inl ⟨rfl, fun i hi hik => ?_⟩
          by_cases e : i = k
          · subst e; simpa using ht
          · exact h2 i hi (by omega)
      · rw [places_succ n l k (by omega)]
        refine .inr ⟨q, hq, ?_, by simp [h2], h3, h4⟩
        split
        · rw [fstP_snoc _ _ h2]; exact h1
        · rw [List.append_nil]; exact h1
  rcases key l.length (Nat.le_refl _) with ⟨h1, _⟩ | ⟨q, hq, h1, _, h3, h4⟩
  · have h2 := places_all n l
    rw [h1] at h2
    unfold cnt at h
    rw [← h2] at h
    exact absurd h (Nat.lt_irrefl _)
  · exact ⟨q, h1, hq, eraseP_at _ l q hq h3 h4⟩
theorem blk_keep {w : World} {g : Nat} {o : Obj} (h : w.heap[g]? = some o) {p : Addr} (hp : g ≠ p.block) (u : Value) : (w.setCell p u).heap[g]? = some o := (Below.heap_setCell w p u g hp).trans h
section
attribute [local go_sem] Oper.semAt_some
set_option maxRecDepth 100000 in
set_option maxHeartbeats 8000000 in
theorem post_room.calls (B : Nat) (n0 : Int) (v : Value) (l : List S35) (a1 : Int) (ok : Nat → Prop) (base m : Nat) (w : World) (hB : w.heap[B]? = some (.cells #[.int .i64 n0, v] 24 (0, 0))) (hR : Kd.R k35 35 w base ok v l) (hl : l.length < 1099511627776) (hm : m ≤ base) (hmB : m ≤ B) (hmw : base ≤ w.heap.size) (hok : ∀ k, ok k → k ≠ B) (hfr : ∀ k, w.heap.size ≤ k → ok k) :
    Calls Try.prog 32 #[.pointer (some ⟨B, 0, none⟩), .int .i64 a1] w fun e w' => e = .returned (.int .i64 (roomN a1 l : Int)) ∧ ∃ v', w'.heap[B]? = some (.cells #[.int .i64 n0, v'] 24 (0, 0)) ∧ Kd.R k35 35 w' base ok v' (roomL a1 l) ∧ Below m w w' ∧ ∀ k, k < w.heap.size → k ≠ B → ¬ ok k → w'.heap[k]? = w.heap[k]? := by
  have hu := Try.underlying24
  have hfa : ∀ f, Fence.wide.fn f := fun _ => trivial
  have BB := Aside0.mk hB
  have RB := Aside0.mk hR
  have LB := Aside0.mk hl
  have MB := Aside0.mk hm
  have MBB := Aside0.mk hmB
  have MW := Aside0.mk hmw
  have OK := Aside0.mk hok
  have FR := Aside0.mk hfr
  clear hB hR hl hm hmB hmw hok hfr
  refine (callsIn_wide (n := 3)).1 ?_
  refine callsIn_of_wp_marks Try.func32 rfl trivial ?_ rfl
  simp only [Try.ntmps32, List.size_toArray, List.length_cons, List.length_nil, Nat.reduceAdd, Nat.reduceSub, Array.replicate_succ, Array.replicate_zero, List.push_toArray, List.append_toArray, List.nil_append, List.cons_append]
  gi_wp2
  obtain ⟨Inv, hInv⟩ : ∃ Inv : Act → World → Prop, Inv = (fun a' wr => ∃ (j : Nat) (ds : List Nat) (u6 u7 u8 u9 u10 u11 u12 u13 u14 u15 u16 u17 u18 u19 u20 u21 u22 u23 u24 u25 u26 u27 u28 u29 u30 u31 u32 u33 u34 u35 : Value), a' = { tmps := #[Value.pointer (some ⟨B, 0, none⟩), Value.int .i64 a1, undef, undef, Value.int .i64 0, Value.int .i64 (j : Int), u6, u7, u8, u9, u10, u11, u12, u13, u14, u15, u16, u17, u18, u19, u20, u21, u22, u23, u24, u25, u26, u27, u28, u29, u30, u31, u32, u33, u34, u35], defers := Go.Proofs.Ytofbkpdpgmjllaa.X.marks ds } ∧
      Aside0 (j ≤ roomN a1 l) ∧ Aside0 (∃ v', wr.heap[B]? = some (.cells #[.int .i64 n0, v'] 24 (0, 0)) ∧ Kd.R k35 35 wr base ok v' (dropTo a1 j l)) ∧ Aside0 (Below m w wr) ∧ Aside0 (∀ k, k < w.heap.size → k ≠ B → ¬ ok k → wr.heap[k]? = w.heap[k]?) ∧ Aside0 (ds.Nodup ∧ ∀ D ∈ ds, w.heap.size ≤ D ∧ wr.heap[D]? = some (.deferred (some [])))) := ⟨_, rfl⟩
  obtain ⟨Mu, hMu⟩ : ∃ Mu : Act → World → Nat, Mu = (fun a' _ => l.length - (match a'.tmps.getD 5 undef with | .int _ i => i.toNat | _ => 0)) := ⟨_, rfl⟩
  have HInv := Aside0.mk hInv
  have HMu := Aside0.mk hMu
  clear hInv hMu
  refine wpIn_loop Inv Mu (by rw [HInv.out]; exact ⟨0, [], _, _, _, _, _, _, _, _, _, _, _, _, _, _, _, _, _, _, _, _, _, _, _, _, _, _, _, _, _, _, rfl, ⟨Nat.zero_le _⟩, ⟨v, BB.out, by rw [dropTo_zero]; exact RB.out⟩, ⟨Below.refl _ _⟩, ⟨fun _ _ _ _ => rfl⟩, ⟨List.nodup_nil, fun _ h => by cases h⟩⟩) ?_
  intro a' W hinv
  rw [HInv.out] at hinv
  obtain ⟨j, ds, u6, u7, u8, u9, u10, u11, u12, u13, u14, u15, u16, u17, u18, u19, u20, u21, u22, u23, u24, u25, u26, u27, u28, u29, u30, u31, u32, u33, u34, u35, rfl, ⟨HJ⟩, ⟨v', hb, hr⟩, BW, KW, DS⟩ := hinv
  have hlen := dropTo_len a1 l j (Nat.le_trans HJ (Nat.sub_le _ _))
  have hcnt := dropTo_cnt a1 l j
  obtain ⟨cur, ecur⟩ : ∃ cur, cur = dropTo a1 j l := ⟨_, rfl⟩
  rw [← ecur] at hr hlen hcnt
  obtain ⟨A1, c1, rfl⟩ := Kd.R_slice hr
  have HC := Aside0.mk (Kd.R_reads' hr).2.2
  have hBW := blk_lt hb
  have hne : B ≠ W.heap.size := Nat.ne_of_lt hBW
  have hne2 : B ≠ W.heap.size + 1 := by omega
  have hc0 : W.cell? ⟨B, 0, none⟩ = some (.int .i64 n0) := (blk_cell hb 0).trans rfl
  have hc1 : W.cell? ⟨B, 1, none⟩ = some (.slice A1 cur.length c1) := (blk_cell hb 1).trans rfl
  have BK := Aside0.mk hb
  have RK := Aside0.mk hr
  have EC := Aside0.mk ecur
  have HL := Aside0.mk hlen
  have HCN := Aside0.mk hcnt
  have JB := Aside0.mk HJ
  have BWL := Aside0.mk hBW
  clear hb hr ecur hlen hcnt HJ
  gi_wp2_with (gi_at_call 40; refine (callsIn_wide.2 (post_to.calls n0 A1 cur.length c1 a1 _)).mono ?_; rintro e w' ⟨rfl, rfl⟩)
  obtain ⟨w1, e1⟩ : ∃ w1, W.alloc (.cells #[.int .i64 0] 3) = w1 := ⟨_, rfl⟩
  rw [e1]
  have s1 : w1.heap.size = W.heap.size + 1 := by rw [← e1]; simp
  have b1 : w1.heap[W.heap.size]? = some (.cells #[.int .i64 0] 3 (0, 0)) := by rw [← e1]; exact blk_new W _
  have l1 : Below W.heap.size W w1 := by rw [← e1]; exact below_alloc (Below.refl _ _) _
  clear e1
  obtain ⟨w2, e2⟩ : ∃ w2, w1.alloc (.cells #[.int .i64 0] 3) = w2 := ⟨_, rfl⟩
  rw [e2]
  have s2 : w2.heap.size = W.heap.size + 1 + 1 := by rw [← e2]; simp [s1]
  have b2 : w2.heap[W.heap.size + 1]? = some (.cells #[.int .i64 0] 3 (0, 0)) := by rw [← e2, ← s1]; exact blk_new w1 _
  have l2 : Below w1.heap.size w1 w2 := by rw [← e2]; exact below_alloc (Below.refl _ _) _
  clear e2
  obtain ⟨w3, e3⟩ : ∃ w3, w2.alloc (.cells #[.int .i64 n0, .slice A1 cur.length c1] 24) = w3 := ⟨_, rfl⟩
  rw [e3]
  have s3 : w3.heap.size = W.heap.size + 1 + 1 + 1 := by rw [← e3]; simp [s2]
  have b3 : w3.heap[W.heap.size + 1 + 1]? = some (.cells #[.int .i64 n0, .slice A1 cur.length c1] 24 (0, 0)) := by rw [← e3, ← s2]; exact blk_new w2 _
  have l3 : Below w2.heap.size w2 w3 := by rw [← e3]; exact below_alloc (Below.refl _ _) _
  clear e3
  obtain ⟨w4, e4⟩ : ∃ w4, w3.alloc (.cells #[.int .i64 a1] 3) = w4 := ⟨_, rfl⟩
  rw [e4]
  have s4 : w4.heap.size = W.heap.size + 1 + 1 + 1 + 1 := by rw [← e4]; simp [s3]
  have b4 : w4.heap[W.heap.size + 1 + 1 + 1]? = some (.cells #[.int .i64 a1] 3 (0, 0)) := by rw [← e4, ← s3]; exact blk_new w3 _
  have l4 : Below w3.heap.size w3 w4 := by rw [← e4]; exact below_alloc (Below.refl _ _) _
  clear e4
  have BL := Aside0.mk (below_step (below_step (below_step l1 l2) l3) l4)
  have B1 := Aside0.mk (blk_below (blk_below (blk_below b1 l2) l3) l4)
  have B2 := Aside0.mk (blk_below (blk_below b2 l3) l4)
  have B3 := Aside0.mk (blk_below b3 l4)
  have B4 := Aside0.mk b4
  have S4 := Aside0.mk s4
  clear b1 b2 b3 b4 l1 l2 l3 l4 s1 s2 s3 s4 hc0 hc1
  refine wpIn_rangeFunc_ownG (α := Fin cur.length) (F := Fence.wide) (n := 3) rfl (by decide) (gf := 45) rfl trivial (enters_of Try.func45 (by kernel_rfl) rfl)
    (post_to1.stops 2 (by decide) n0 a1 A1 c1 cur W w4 (W.heap.size + 1 + 1) (W.heap.size + 1 + 1 + 1) HC.out BL.out B3.out B4.out)
    (fun h k => h.t k) (fun W5 l' o o' hl h h1 h2 => KpTo.b (w := w4) (m := W.heap.size) (B := W.heap.size + 1 + 1) (C := W.heap.size + 1 + 1 + 1) (by have := S4.out; omega) (by have := S4.out; omega) (by have := S4.out; omega) W5 l' o o' hl h h1 h2) (Below.refl _ _) (fun _ => rfl)
    (fun pre W5 => W5.heap[W.heap.size]? = some (.cells #[.int .i64 (pre.length : Int)] 3 (0, 0)) ∧ W5.heap[W.heap.size + 1]? = some (.cells #[.int .i64 (fstP pre)] 3 (0, 0)) ∧ w4.heap.size ≤ W5.heap.size ∧ Below W.heap.size W W5)
    (fun _ _ _ => False)
    ?own (fun _ _ _ _ _ hs _ _ => hs) ⟨B1.out, B2.out, Nat.le_refl _, BL.out⟩
    (fun x => { tmps := #[.pointer (some ⟨B, 0, none⟩), .int .i64 a1, undef, undef, .int .i64 0, .int .i64 (j : Int), .pointer (some ⟨W.heap.size, 0, none⟩), .pointer (some ⟨W.heap.size + 1, 0, none⟩), .int .i64 (x.1 : Int), .pointer (some ⟨B, 0, none⟩), .pointer (some ⟨B, 0, none⟩), .agg #[.int .i64 n0, .slice A1 cur.length c1], .int .i64 a1, .func (.func 45) #[] #[.pointer (some ⟨W.heap.size + 1 + 1, 0, none⟩), .pointer (some ⟨W.heap.size + 1 + 1 + 1, 0, none⟩)], .int .i64 (x.1 : Int), u15, u16, u17, u18, u19, u20, u21, u22, u23, u24, u25, u26, u27, u28, u29, u30, u31, u32, u33, u34, u35], defers := [] })
    ?assign ?body ?done ?stop
  case own => exact OwnFrom.and (Own.from (Go.Proofs.Ytofbkpdpgmjllaa.X.blk_own (fun pre : List (Fin cur.length) => #[.int .i64 (pre.length : Int)])) _) (OwnFrom.and (Own.from (Go.Proofs.Ytofbkpdpgmjllaa.X.blk_own (fun pre : List (Fin cur.length) => #[.int .i64 (fstP pre)])) _) (OwnFrom.and (fun _ _ _ _ hs hg _ => Nat.le_trans hs hg.size) (ownFrom_below (Nat.le_refl _) (by have := S4.out; omega))))
  case assign =>
    intro l' x W5 K hK
    gi_wp2
    exact hK
  case stop =>
    rintro D c pre W5 hD _ h
    exact h.elim
  case body =>
    rintro y pre x W5 ⟨hb1, hb2, hsz, hbel⟩ hlt
    have X1 := Aside0.mk hb1
    have X2 := Aside0.mk hb2
    have X3 := Aside0.mk hsz
    have X4 := Aside0.mk hbel
    have X5 := Aside0.mk hlt
    have hq : pre.length < 1099511627776 := by have := HL.out; have := LB.out; omega
    have hz1 : W5.cell? ⟨W.heap.size, 0, none⟩ = some (.int .i64 (pre.length : Int)) := (blk_cell hb1 0).trans rfl
    have hz2 : W5.frozen? ⟨W.heap.size, 0, none⟩ = false := blk_frozen hb1 0
    have hz3 : W5.cell? ⟨W.heap.size + 1, 0, none⟩ = some (.int .i64 (fstP pre)) := (blk_cell hb2 0).trans rfl
    have hz4 : W5.frozen? ⟨W.heap.size + 1, 0, none⟩ = false := blk_frozen hb2 0
    have hpl : ((pre ++ [x]).length : Int) = (pre.length : Int) + 1 := by simp
    have HPL := Aside0.mk hpl
    clear hb1 hb2 hsz hbel hlt hpl
    by_cases hp : pre = []
    · subst hp
      gi_wp2
      have z1 : (W5.setCell ⟨W.heap.size + 1, 0, none⟩ (.int .i64 (x.1 : Int))).heap[W.heap.size]? = some (.cells #[.int .i64 0] 3 (0, 0)) := blk_far X1.out (by show W.heap.size ≠ W.heap.size + 1; omega) _
      have z2 : (W5.setCell ⟨W.heap.size + 1, 0, none⟩ (.int .i64 (x.1 : Int))).heap[W.heap.size + 1]? = some (.cells #[.int .i64 (x.1 : Int)] 3 (0, 0)) := blk_put X2.out 0 _ rfl
      exact ⟨((KeepsOthers.setCell W5 _ _).trans (KeepsOthers.setCell _ _ _)).from _, ⟨((Below.refl W.heap.size W5).setCell (p := ⟨W.heap.size + 1, 0, none⟩) (by show W.heap.size ≤ W.heap.size + 1; omega) _).setCell (p := ⟨W.heap.size, 0, none⟩) (Nat.le_refl _) _, fun o ho => blk_keep (blk_keep ho (by show W.heap.size + 1 + 1 ≠ W.heap.size + 1; omega) _) (by show W.heap.size + 1 + 1 ≠ W.heap.size; omega) _, fun o ho => blk_keep (blk_keep ho (by show W.heap.size + 1 + 1 + 1 ≠ W.heap.size + 1; omega) _) (by show W.heap.size + 1 + 1 + 1 ≠ W.heap.size; omega) _⟩,
        blk_put z1 0 _ rfl, blk_far z2 (by show W.heap.size + 1 ≠ W.heap.size; omega) _, Nat.le_trans X3.out ((KeepsOthers.setCell W5 _ _).trans (KeepsOthers.setCell _ _ _)).size, (X4.out.setCell (p := ⟨W.heap.size + 1, 0, none⟩) (by show W.heap.size ≤ W.heap.size + 1; omega) _).setCell (p := ⟨W.heap.size, 0, none⟩) (Nat.le_refl _) _⟩
    · have hp0 : 0 < pre.length := List.length_pos_iff.2 hp
      have d1 : decide ((pre.length : Int) = 0) = false := decide_eq_false (by omega)
      have d2 : ((pre.length : Int) == 0) = false := beq_eq_false_iff_ne.2 (by omega)
      have HP := Aside0.mk hp
      clear hp
      gi_wp2
      refine ⟨(KeepsOthers.setCell W5 _ _).from _, ⟨(Below.refl W.heap.size W5).setCell (p := ⟨W.heap.size, 0, none⟩) (Nat.le_refl _) _, fun o ho => blk_keep ho (by show W.heap.size + 1 + 1 ≠ W.heap.size; omega) _, fun o ho => blk_keep ho (by show W.heap.size + 1 + 1 + 1 ≠ W.heap.size; omega) _⟩, ?_, ?_, Nat.le_trans X3.out (KeepsOthers.setCell W5 _ _).size, X4.out.setCell (p := ⟨W.heap.size, 0, none⟩) (Nat.le_refl _) _⟩
      · rw [HPL.out]; exact blk_put X1.out 0 _ rfl
      · rw [fstP_snoc _ _ HP.out]; exact blk_far X2.out (by show W.heap.size + 1 ≠ W.heap.size; omega) _
  case done =>
    rintro D ys W5 hD rfl ⟨hb1, hb2, hsz, hbel⟩ hK
    have hpc : (places a1 cur cur.length).length = cnt a1 cur := by rw [cnt, ← places_all, List.length_map]
    rw [hpc] at hb1
    have hcl := cnt_le a1 cur
    have hz1 : W5.cell? ⟨W.heap.size, 0, none⟩ = some (.int .i64 (cnt a1 cur : Int)) := (blk_cell hb1 0).trans rfl
    have X1 := Aside0.mk hb1
    have X2 := Aside0.mk hb2
    have X3 := Aside0.mk hsz
    have X4 := Aside0.mk hbel
    have X5 := Aside0.mk hK
    have X6 := Aside0.mk hD
    have hND : (D :: ds).Nodup := List.nodup_cons.2 ⟨fun hE => by have h1 := (DS.out.2 D hE).2; have h2 := blk_lt h1; have := S4.out; omega, DS.out.1⟩
    have hDS : ∀ E ∈ D :: ds, w.heap.size ≤ E ∧ W5.heap[E]? = some (.deferred (some [])) := fun E hE => by
      rcases List.mem_cons.1 hE with rfl | hE
      · exact ⟨by have := S4.out; have := BW.out.size; omega, hK⟩
      · exact ⟨(DS.out.2 E hE).1, blk_below (DS.out.2 E hE).2 hbel⟩
    have HND := Aside0.mk hND
    have HDS := Aside0.mk hDS
    clear hb1 hb2 hsz hbel hK hD hpc hND hDS
    by_cases hc : cnt a1 cur < 20
    · have d1 : decide ((cnt a1 cur : Int) < 20) = true := decide_eq_true (by omega)
      have HJ2 : Aside0 (roomN a1 l = j) := ⟨by have := HCN.out; have := JB.out; unfold roomN at *; omega⟩
      clear hc hcl
      gi_wp2
      have hb5 := blk_below BK.out X4.out
      have hnB : ∀ E ∈ D :: ds, B ≠ E := fun E hE e => by have h1 := (HDS.out E hE).2; rw [← e, hb5] at h1; cases h1
      have hbl : Below m w W5 := below_then BW.out (by have := MB.out; have := MW.out; have := BW.out.size; omega) X4.out
      refine Go.Proofs.Ytofbkpdpgmjllaa.X.leaves_marks (D :: ds) W5 HND.out (fun E hE => (HDS.out E hE).2) ⟨_, results_tmp rfl _ _ _, by rw [HJ2.out]; rfl, _, (Go.Proofs.Ytofbkpdpgmjllaa.X.shutAll_grown _ _ hnB).trans hb5, ?_, Go.Proofs.Ytofbkpdpgmjllaa.X.shutAll_below _ hbl (by have := MB.out; have := MW.out; have := hbl.size; omega) (fun E hE => by have := (HDS.out E hE).1; have := MB.out; have := MW.out; omega), fun k hk hkB hko => ?_⟩
      · rw [show roomL a1 l = cur by rw [EC.out, roomL, ← HJ2.out]; rfl]
        exact Go.Proofs.Ytofbkpdpgmjllaa.X.shutAll_R _ HND.out (fun E hE => (HDS.out E hE).2) (Kd.R_below RK.out X4.out)
      · exact ((Go.Proofs.Ytofbkpdpgmjllaa.X.shutAll_grown _ _ (fun E hE => by have := (HDS.out E hE).1; omega)).trans (X4.out.block k (Nat.lt_of_lt_of_le hk BW.out.size))).trans (KW.out k hk hkB hko)
    · have d1 : decide ((cnt a1 cur : Int) < 20) = false := decide_eq_false (by omega)
      have HC20 := Aside0.mk hc
      obtain ⟨q, hq1, hq2, hq3⟩ := places_first a1 cur (by omega)
      rw [hq1] at X2
      have hf1 : W5.cell? ⟨W.heap.size + 1, 0, none⟩ = some (.int .i64 (q : Int)) := (blk_cell X2.out 0).trans rfl
      have Q2 := Aside0.mk hq2
      have Q3 := Aside0.mk hq3
      clear hc hcl hq1 hq2 hq3
      obtain ⟨g, cap, eg, hgb, hgl, cells, hcells⟩ := Kd.R_form RK.out (by have := Q2.out; omega)
      injection eg with ea _ ec
      subst ea; subst ec
      have hb5 := Aside0.mk (blk_below BK.out X4.out)
      have hR5 := Aside0.mk (Kd.R_below RK.out X4.out)
      have hgB := Aside0.mk (OK.out g (RK.out.1 g (by simp [Value.ownBlock])))
      have hcB : W5.cell? ⟨B, 1, none⟩ = some (.slice (some ⟨g, 0, none⟩) cur.length c1) := (blk_cell hb5.out 1).trans rfl
      have hB5 := Aside0.mk (Nat.le_trans MW.out (Nat.le_trans BW.out.size X4.out.size))
      have mixed : Try.prog.follows .mixedOrders = true := by kernel_rfl
      have hgb' := Aside0.mk hgb
      have HWJ : Aside0 (wrap64 ((j : Int) + 1) = ((j + 1 : Nat) : Int)) := ⟨by have := HL.out; have := LB.out; unfold wrap64; omega⟩
      have HW : Aside0 (IntKind.i64.wrap ((q : Int) + 1) = wrap64 ((q : Int) + 1)) := ⟨by rw [IntKind.wrap_i64, wrap64]⟩
      have XG := Aside0.mk (⟨cells, blk_below hcells X4.out⟩ : ∃ cells, W5.heap[g]? = some (.cells cells 35 (0, 0)))
      have OKG := Aside0.mk (RK.out.1 g (by simp [Value.ownBlock]))
      clear hgb hgl hcells
      gi_wp2
      refine wpIn_wide.2 (Go.Proofs.Ytofbkpdpgmjllaa.X.wp_only ?_)
      go_region_with_o (go_at_call 35; rw [HW.out]; refine (delete_Letter_R.calls (base := base) (ok := ok) (w0 := W5) (q : Int) (Kd.R_drew hR5.out) (by omega) (by have := Q2.out; omega) (below_drew (Below.refl _ _)) hB5.out).mono ?_; rintro e w6 ⟨rfl, ho, hb, hg⟩; have hb6 := blk_grown (w := (World.drew W5)) hb5.out hg (fun e_ => hgB.out (by injection e_ with e_; exact e_.symm)); have hz6 := blk_cell hb6 1; have hf6 := blk_frozen hb6 1; have Y1 := Aside0.mk ho; have Y2 := Aside0.mk hb; have Y3 := Aside0.mk hg; have Y4 := Aside0.mk hb6; clear ho hb hg hb6)
      all_goals (unfold Go.Proofs.Ytofbkpdpgmjllaa.X.onlyNormal; dsimp only)
      all_goals gi_wp2
      all_goals rw [HInv.out, HMu.out, HWJ.out]
      all_goals clear HInv HMu
      all_goals exact ⟨⟨j + 1, D :: ds, _, _, _, _, _, _, _, _, _, _, _, _, _, _, _, _, _, _, _, _, _, _, _, _, _, _, _, _, _, _, rfl, ⟨by have := HCN.out; have := HC20.out; have := JB.out; unfold roomN at *; omega⟩, ⟨.slice (some ⟨g, 0, none⟩) (cur.length - 1) c1, blk_put Y4.out 1 _ rfl, by
            have e2 := dropTo_erase a1 l j (by have := HCN.out; have := HC20.out; omega)
            rw [← EC.out, Q3.out] at e2
            rw [← e2]
            have e3 := Y1.out
            rw [Int.toNat_natCast] at e3
            exact Kd.R_far e3 (p := ⟨B, 1, none⟩) (fun k hk => OK.out k hk) _⟩,
          ⟨((below_then BW.out (by have := MB.out; have := MW.out; have := BW.out.size; omega) X4.out).trans (Y2.out.mono MB.out)).setCell (p := ⟨B, 1, none⟩) MBB.out _⟩,
          ⟨fun k hk hkB hko => (((Below.heap_setCell w6 ⟨B, 1, none⟩ _ k hkB).trans (Y3.out.block k (Nat.lt_of_lt_of_le hk (Nat.le_trans BW.out.size X4.out.size)) (fun e_ => hko (by injection e_ with e_; rw [e_]; exact OKG.out)))).trans (X4.out.block k (Nat.lt_of_lt_of_le hk BW.out.size))).trans (KW.out k hk hkB hko)⟩,
          ⟨HND.out, fun E hE => ⟨(HDS.out E hE).1, by
            have h1 := (HDS.out E hE).2
            have hEg : E ≠ g := fun e_ => by rw [e_, XG.out.choose_spec] at h1; cases h1
            have hEB : E ≠ B := fun e_ => by rw [e_, hb5.out] at h1; cases h1
            exact blk_keep (blk_grown (w := World.drew W5) h1 Y3.out (fun e_ => hEg (by injection e_))) hEB _⟩⟩⟩, by
          show l.length - ((j + 1 : Nat) : Int).toNat < l.length - ((j : Nat) : Int).toNat
          have := HL.out; have := Q2.out; omega⟩
end

end Go.Proofs.Ytofbkpdpgmjllaa.F
