-- Written by a program of this session (xprint.py), out of the translation and of contracts proved by hand.
import Derived.Test.YtofbkpdpgmjllaaF0
namespace Go.Proofs.Ytofbkpdpgmjllaa.F
open Go.RowKit Go.Proofs.YtofbkpdpgmjllaaV.PrintWords Go.Proofs.YtofbkpdpgmjllaaV.PrintLast Go.Proofs.YtofbkpdpgmjllaaV.PrintMore
attribute [local go_sem] max2_int min2_int max_two min_two max_three min_three max_four min_four   -- for this text's walks alone
set_option linter.unusedVariables false
set_option linter.unusedSimpArgs false

/-! ### slices_IndexFunc_string_string: function 41 -/
def ix_S (p : ByteArray → Bool) (l : List ByteArray) : Int := match l.findIdx? p with | some i => (i : Int) | none => -1
theorem ix_S_hit (p : ByteArray → Bool) (l : List ByteArray) (i : Nat) (hi : i < l.length) (h : p (rdOf ByteArray.empty l (i : Int)) = true) (hn : ∀ j, j < i → p (rdOf ByteArray.empty l (j : Int)) = false) : ix_S p l = (i : Int) := by
  have e : l.findIdx? p = some i := by
    rw [List.findIdx?_eq_some_iff_getElem]
    refine ⟨hi, ?_, fun j hj => ?_⟩
    · simpa [rdOf, List.getD_eq_getElem?_getD, List.getElem?_eq_getElem hi] using h
    · have := hn j hj
      simpa [rdOf, List.getD_eq_getElem?_getD, List.getElem?_eq_getElem (show j < l.length by omega)] using this
  unfold ix_S; rw [e]
theorem ix_S_miss (p : ByteArray → Bool) (l : List ByteArray) (hn : ∀ j, j < l.length → p (rdOf ByteArray.empty l (j : Int)) = false) : ix_S p l = -1 := by
  have e : l.findIdx? p = none := by
    rw [List.findIdx?_eq_none_iff]
    intro x hx
    obtain ⟨j, hj, rfl⟩ := List.mem_iff_getElem.1 hx
    have := hn j hj
    simpa [rdOf, List.getD_eq_getElem?_getD, List.getElem?_eq_getElem hj] using this
  unfold ix_S; rw [e]
set_option maxHeartbeats 8000000 in
set_option maxRecDepth 100000 in
theorem ixfunc_S.calls (p : ByteArray → Bool) (g : Nat) (lb : Array Value) (eg : ∀ args w, (callFunc g args).run Try.prog w = .ok (.enter g args) w) (A0 : Option Addr) (c0 : Nat) (l0 : List ByteArray) (w : World)
    (hp : ∀ (W : World) (x : ByteArray), Below w.heap.size w W → Calls Try.prog g (#[.string x] ++ lb) W fun e w' => e = .returned (.bool (p x)) ∧ Below w.heap.size w w')
    (hr0 : Kd.C Kd.string w A0 l0.length l0) :
    Calls Try.prog 41 #[.slice A0 l0.length c0, .func (.func g) #[] lb] w fun e w' => e = .returned (.int .i64 (ix_S p l0)) ∧ Below w.heap.size w w' := by
  have hbig := hr0.2.1
  have HR0 := Aside0.mk hr0
  have HP := Aside0.mk hp
  clear hr0 hp
  go_enter Try.func41, Try.ntmps41
  go_wp2
  go_loopg [5, 8] l0.length (fun gg _ s8 wr => ∃ kk : Nat, kk ≤ l0.length ∧ l0.length - kk ≤ gg ∧ s8 = .int .i64 kk ∧ Aside0 (Below w.heap.size w wr) ∧ Aside0 (∀ j, j < kk → p (rdOf ByteArray.empty l0 (j : Int)) = false))
  case atStart => exact ⟨0, Nat.zero_le _, by omega, rfl, ⟨Below.refl _ w⟩, ⟨fun j hj => absurd hj (Nat.not_lt_zero _)⟩⟩
  case round =>
    obtain ⟨kk, hkk, hg, rfl, BW, A⟩ := hrel
    by_cases hlt : kk < l0.length
    · have hltz : (kk : Int) < (l0.length : Int) := by omega
      obtain ⟨ad, e0, hx⟩ := Kd.at_string (Kd.C_below HR0.out BW.out) (kk : Int) (by omega) hltz
      cases e0
      simp only [Int.toNat_natCast] at hx
      have hcall := HP.out wr (rdOf ByteArray.empty l0 (kk : Int)) BW.out
      cases hq : p (rdOf ByteArray.empty l0 (kk : Int)) with
      | true =>
        rw [hq] at hcall
        have Q := Aside0.mk hq
        clear hq
        go_wp2_with (go_at_fn g; refine hcall.mono ?_; rintro e w' ⟨rfl, hb'⟩)
        go_ret
        exact ⟨by rw [ix_S_hit p l0 kk hlt Q.out A.out]; rfl, hb'⟩
      | false =>
        rw [hq] at hcall
        have Q := Aside0.mk hq
        clear hq
        go_wp2_with (go_at_fn g; refine hcall.mono ?_; rintro e w' ⟨rfl, hb'⟩)
        go_roundg (l0.length - (kk + 1))
        case measure => omega
        case rel =>
          refine ⟨kk + 1, by omega, by omega, by go_num, ⟨hb'⟩, ⟨fun j hj => ?_⟩⟩
          by_cases e : j = kk
          · subst e; exact Q.out
          · exact A.out j (by omega)
    · have hltz : ¬ (kk : Int) < (l0.length : Int) := by omega
      go_wp2
      go_ret
      exact ⟨by rw [ix_S_miss p l0 (fun j hj => A.out j (by omega))]; rfl, BW.out⟩

/-! ### slices_ContainsFunc_string_string: function 30 -/
theorem ix_S_any (p : ByteArray → Bool) (l : List ByteArray) : decide ((0 : Int) ≤ ix_S p l) = l.any p := by
  unfold ix_S
  cases h : l.findIdx? p with
  | none =>
    rw [List.findIdx?_eq_none_iff] at h
    have h2 : l.any p = false := by
      rw [List.any_eq_false]
      intro x hx
      rw [h x hx]; decide
    rw [h2]; rfl
  | some i =>
    rw [List.findIdx?_eq_some_iff_getElem] at h
    obtain ⟨hi, hp, _⟩ := h
    have h2 : l.any p = true := by
      rw [List.any_eq_true]
      exact ⟨l[i], List.getElem_mem hi, hp⟩
    rw [h2]
    exact decide_eq_true (Int.natCast_nonneg i)
set_option maxHeartbeats 8000000 in
set_option maxRecDepth 100000 in
theorem contfunc_S.calls (p : ByteArray → Bool) (g : Nat) (lb : Array Value) (eg : ∀ args w, (callFunc g args).run Try.prog w = .ok (.enter g args) w) (A0 : Option Addr) (c0 : Nat) (l0 : List ByteArray) (w : World)
    (hp : ∀ (W : World) (x : ByteArray), Below w.heap.size w W → Calls Try.prog g (#[.string x] ++ lb) W fun e w' => e = .returned (.bool (p x)) ∧ Below w.heap.size w w')
    (hr0 : Kd.C Kd.string w A0 l0.length l0) :
    Calls Try.prog 30 #[.slice A0 l0.length c0, .func (.func g) #[] lb] w fun e w' => e = .returned (.bool (l0.any p)) ∧ Below w.heap.size w w' := by
  have HR0 := Aside0.mk hr0
  have HP := Aside0.mk hp
  rw [← ix_S_any]
  generalize hq : ix_S p l0 = q
  have Q := Aside0.mk hq
  clear hr0 hp hq
  go_enter Try.func30, Try.ntmps30
  go_wp2_with (go_at_call 41; refine (ixfunc_S.calls p g lb eg A0 c0 l0 _ HP.out HR0.out).mono ?_; rintro e w' ⟨rfl, hb'⟩; rw [Q.out])
  go_ret
  exact ⟨rfl, hb'⟩

/-! ### api_Letter_31: function 31 -/
def api_Letter_31.f (l0 : List S35) : Option (List S35) := if l0.length < 2199023255552 then some l0 else none
set_option maxHeartbeats 8000000 in
set_option maxRecDepth 100000 in
theorem api_Letter_31.calls (A0 : Option Addr) (c0 : Nat) (l0 : List S35) (r : List S35) (w : World) (hr0 : Kd.C k35 w A0 l0.length l0) (hc0 : l0.length ≤ c0) (h : api_Letter_31.f l0 = some r) :
    Calls Try.prog 31 #[.slice A0 l0.length c0] w fun e w' => ∃ v0_ : Value, e = .returned (v0_) ∧ Kd.R k35 35 w' w.heap.size (fun _ => True) v0_ r ∧ Below w.heap.size w w' := by
  have q : ∀ (w : World) (a : Option Addr) (n c n' c' : Nat), (binOp .eql 22 (.slice a n c) (.slice none n' c')).run Try.prog w = .ok (.bool a.isNone) w := fun w a n c n' c' => Lib.run_eql_slice_nil w _ _ a n c n' c' Try.underlying22
  unfold api_Letter_31.f at h
  by_cases c2 : l0.length < 2199023255552
  · rw [if_pos c2] at h
    obtain rfl := Option.some.inj h
    have LM := Aside0.mk c2
    clear h c2
    have HR0 := Aside0.mk hr0
    clear hr0 hc0
    cases A0 with
    | none =>
      go_enter Try.func31, Try.ntmps31
      go_wp2
      go_ret
      have e : l0 = [] := by
        rcases Nat.eq_zero_or_pos l0.length with h0 | h0
        · exact List.eq_nil_of_length_eq_zero h0
        · obtain ⟨ad, h, _⟩ := HR0.out.2.2 h0
          cases h
      subst e
      exact ⟨_, rfl, Kd.R_nil _ _ _ _ _, Below.refl _ _⟩
    | some ad =>
      go_enter Try.func31, Try.ntmps31
      go_wp2_with ((with_reducible refine gate_builtin (b := .append) (xs := #[.tmp 5, .tmp 6]) rfl ?_); at_builtin; refine Kd.R_append_rows k35 (w0 := w) w.heap.size rfl (.tmp 5) (.tmp 6) 22 35 (.agg #[.int .i64 0, .int .i64 0, .int .i64 0, .string ⟨#[]⟩]) 40 rfl Try.underlying22 info35 rfl (by decide) (by omega) (.slice (some ⟨w.heap.size, 0, none⟩) 0 0) ([] : List S35) l0 _ _ _ (fun _ => True) (fun _ => False) rfl rfl ?aO ?aR (fun _ _ h => h) (fun _ h => h.elim) ?aF ?aB ?aS ?aL ?_; (case aR => exact Kd.C_alloc HR0.out _); (case aB => exact below_alloc (Below.refl _ _) _); (case aF => exact (fun _ _ => trivial)); (case aO => exact ⟨fun _ _ => trivial, [], World.ownsRow_made w #[] 0 (Nat.le_refl _) (Nat.zero_le _) rfl, ⟨rfl, fun j p hj => by simp at hj⟩⟩); (case aS => simp); (case aL => have := LM.out; simp; omega); intro v157 w3 ho hb hg hat; rw [List.nil_append] at ho; have HB := Aside0.mk (hb); have HO := Aside0.mk (ho); clear ho hb hg hat)
      go_ret
      exact ⟨_, rfl, HO.out, HB.out⟩
  · rw [if_neg c2] at h
    exact absurd h (by simp)

/-! ### post_to: function 40 -/
def toP (n : Int) (x : S35) : Bool := decide (x.f2 = n)
/-- The places of the letters to n. -/
def places (n : Int) (l : List S35) (k : Nat) : List (Fin l.length) := ((List.finRange l.length).take k).filter (fun i => toP n l[i])
theorem places_zero (n : Int) (l : List S35) : places n l 0 = [] := rfl
theorem places_succ (n : Int) (l : List S35) (k : Nat) (hk : k < l.length) : places n l (k + 1) = places n l k ++ (if toP n l[k] = true then [⟨k, hk⟩] else []) := by
  unfold places
  rw [List.take_add_one, List.filter_append]
  congr 1
  rw [List.getElem?_eq_getElem (by simpa using hk)]
  simp [List.filter_cons]
theorem places_all (n : Int) (l : List S35) : (places n l l.length).map (fun i => l[i]) = l.filter (toP n) := by
  have key : ∀ k, k ≤ l.length → (places n l k).map (fun i => l[i]) = (l.take k).filter (toP n) := by
    intro k
    induction k with
    | zero => intro _; rw [places_zero]; rfl
    | succ k ih =>
      intro hk
      rw [places_succ n l k (by omega), List.map_append, ih (by omega), List.take_succ_eq_append_getElem (by omega), List.filter_append]
      congr 1
      by_cases h : toP n l[k] = true
      · rw [if_pos h]; simp [List.filter_cons, h]
      · rw [if_neg h]; simp [List.filter_cons, h]
  rw [key _ (Nat.le_refl _), List.take_length]
/-- What an iterator over letters wants kept in a round: what lay below m, and its own two boxes. -/
structure KpTo (m B C : Nat) (W W' : World) : Prop where
  bel : Below m W W'
  one : ∀ o, W.heap[B]? = some o → W'.heap[B]? = some o
  two : ∀ o, W.heap[C]? = some o → W'.heap[C]? = some o
theorem KpTo.t {m B C : Nat} {X Y Z : World} (h : KpTo m B C X Y) (k : KpTo m B C Y Z) : KpTo m B C X Z := ⟨h.bel.trans k.bel, fun o ho => k.one o (h.one o ho), fun o ho => k.two o (h.two o ho)⟩
theorem KpTo.b {m B C : Nat} {w : World} (hm : m ≤ w.heap.size) (hB : B < w.heap.size) (hC : C < w.heap.size) (W : World) (l : Nat) (o o' : Obj) (hl : w.heap.size ≤ l) (h : W.heap[l]? = some o) (h1 : o.isCells = false) (h2 : o.isWalk = false) : KpTo m B C W (W.putObj l o') :=
  ⟨belowK_b hm W l o o' hl h h1 h2, fun x hx => (World.putObj_heap_other (by omega)).trans hx, fun x hx => (World.putObj_heap_other (by omega)).trans hx⟩
theorem post_to.calls (a0 : Int) (A : Option Addr) (n c : Nat) (a1 : Int) (w : World) :
    Calls Try.prog 40 #[.agg #[.int .i64 a0, .slice A n c], .int .i64 a1] w fun e w' => e = .returned (.func (.func 45) #[] #[.pointer (some ⟨w.heap.size, 0, none⟩), .pointer (some ⟨w.heap.size + 1, 0, none⟩)]) ∧ w' = (w.alloc (.cells #[.int .i64 a0, .slice A n c] 24)).alloc (.cells #[.int .i64 a1] 3) := by
  have hu := Try.underlying24
  go_enter Try.func40, Try.ntmps40
  go_wp2
  go_ret
  exact ⟨rfl, rfl⟩
theorem places_lt (n : Int) (l : List S35) (k : Nat) (hk : k < l.length) : (places n l k).length < l.length := by
  unfold places
  refine Nat.lt_of_le_of_lt (List.length_filter_le _ _) ?_
  rw [List.length_take, List.length_finRange]; omega
section
attribute [local go_sem] Oper.semAt_some
set_option maxRecDepth 100000 in
set_option maxHeartbeats 2000000 in
/-- The iterator over the places of the letters to one. -/
theorem post_to1.stops (n : Nat) (hn : 1 ≤ n) (a0 a1 : Int) (A : Option Addr) (c : Nat) (l : List S35) (w0 w : World) (B C : Nat) (hr : Kd.C k35 w0 A l.length l) (hw : Below w0.heap.size w0 w)
    (hB : w.heap[B]? = some (.cells #[.int .i64 a0, .slice A l.length c] 24 (0, 0))) (hC : w.heap[C]? = some (.cells #[.int .i64 a1] 3 (0, 0))) :
    SeqStopsK Fence.wide n Try.prog 45 #[.pointer (some ⟨B, 0, none⟩), .pointer (some ⟨C, 0, none⟩)] (fun i : Fin l.length => #[Value.int .i64 (i.1 : Int)]) (KpTo w0.heap.size B C) (fun xs => xs = places a1 l l.length) (fun _ => True) l.length w := fun y J Jx W hW hJ hJx hY h0 => by
  have hu := Try.underlying24
  have hu2 := Try.underlying35
  have hbig := hr.2.1
  have HR := Aside0.mk hr
  have HJ := Aside0.mk hJ
  have HY := Aside0.mk hY
  have h0' : J (places a1 l 0) W := h0
  have BKB := Aside0.mk (blk_below hB hW)
  have BKC := Aside0.mk (blk_below hC hW)
  have HB := Aside0.mk (hw.trans (hW.mono hw.size) : Below w0.heap.size w0 W)
  clear hr hJ hY h0 hB hC hw hW
  have hcB : W.cell? ⟨B, 1, none⟩ = some (.slice A l.length c) := (blk_cell BKB.out 1).trans rfl
  refine callsIn_of_wp Try.func45 rfl trivial ?_ rfl
  simp only [Try.ntmps45, List.size_toArray, List.length_cons, List.length_nil, Nat.reduceAdd, Nat.reduceSub, Array.replicate_succ, Array.replicate_zero, List.push_toArray, List.append_toArray, List.nil_append, List.cons_append]
  gi_wp2
  gi_loopw [9] (fun i wr => ∃ k : Nat, k ≤ l.length ∧ i = .int .i64 k ∧ Aside0 (J (places a1 l k) wr) ∧ Aside0 (Below w0.heap.size w0 wr) ∧ Aside0 (W.heap.size ≤ wr.heap.size) ∧ Aside0 (wr.heap[B]? = some (.cells #[.int .i64 a0, .slice A l.length c] 24 (0, 0))) ∧ Aside0 (wr.heap[C]? = some (.cells #[.int .i64 a1] 3 (0, 0)))) (fun i _ => l.length - (intOf i).toNat)
  case atStart => exact ⟨0, Nat.zero_le _, rfl, ⟨h0'⟩, HB, ⟨Nat.le_refl _⟩, BKB, BKC⟩
  case round =>
    clear hcB HB BKB BKC
    obtain ⟨k, hk, rfl, HJr, HB, HS, BKB, BKC⟩ := hrel
    have hneC : C ≠ wr.heap.size := Nat.ne_of_lt (blk_lt BKC.out)
    by_cases hlt : k < l.length
    · have hltz : (k : Int) < (l.length : Int) := by omega
      obtain ⟨ad, e0, hx0, hx1, hx2, hx3⟩ := at_T35 (Kd.C_below HR.out HB.out) (k : Int) (by omega) hltz
      cases e0
      simp only [Int.toNat_natCast] at hx0 hx1 hx2 hx3
      have hrd : rd_T35 l (k : Int) = l[k] := by simp [rd_T35, List.getD_eq_getElem?_getD, List.getElem?_eq_getElem hlt]
      have hps := places_succ a1 l k hlt
      rw [← hrd] at hps
      generalize hy_ : rd_T35 l (k : Int) = y_ at hx0 hx1 hx2 hx3 hps
      clear hrd hy_
      obtain ⟨x0, x1, x2, x3⟩ := y_
      by_cases ht : x2 = a1
      · subst ht
        have e1 : toP x2 ⟨x0, x1, x2, x3⟩ = true := by simp [toP]
        rw [if_pos e1] at hps
        have PS := Aside0.mk hps
        clear hps e1
        have hJ2 := HJ.out _ _ (wr.alloc (.cells #[.int .i64 x0, .int .i64 x1, .int .i64 x2, .string x3] 35)) none HJr.out (World.grownBy_alloc wr _ none) (fun r e => by cases e)
        have hbl := below_alloc (Below.refl _ wr) (.cells #[.int .i64 x0, .int .i64 x1, .int .i64 x2, .string x3] 35)
        obtain ⟨fn, tmps, assign, body, hy, hR⟩ := HY.out _ ⟨k, hlt⟩ _ hJ2 (places_lt _ _ _ hlt)
        have HR2 := Aside0.mk hR
        have HB2 := Aside0.mk (below_then HB.out HB.out.size hbl)
        have BB2 := Aside0.mk (blk_below BKB.out hbl)
        have BC2 := Aside0.mk (blk_below BKC.out hbl)
        have HS2 := Aside0.mk (Nat.le_trans HS.out hbl.size)
        clear hJ2 hbl hR
        have hcC2 := (blk_cell BC2.out 0).trans rfl
        dsimp only at hy
        gi_wp2
        refine HR2.out.mono ?_
        rintro e W3 (⟨rfl, hJ3, hk3⟩ | ⟨rfl, hJx3⟩)
        · have N1 := Aside0.mk hJ3
          have N2 := Aside0.mk (HB2.out.trans hk3.bel)
          have N3 := Aside0.mk (hk3.one _ BB2.out)
          have N4 := Aside0.mk (hk3.two _ BC2.out)
          have N5 := Aside0.mk (Nat.le_trans HS2.out hk3.bel.size)
          clear hJ3 hk3
          gi_wp2
          go_roundw
          case rel => exact ⟨k + 1, by omega, by go_num, ⟨by rw [PS.out]; exact N1.out⟩, N2, N5, N3, N4⟩
          case measure => simp [intOf]; omega
        · gi_wp2
          refine bodyPost_ret (results_none rfl _ _ _) rfl ?_
          exact ⟨⟨_, rfl⟩, .inr ⟨_, trivial, hJx3⟩⟩
      · have e1 : toP a1 ⟨x0, x1, x2, x3⟩ = false := by simp [toP, ht]
        rw [e1] at hps
        have PS := Aside0.mk hps
        have d1 : (x2 == a1) = false := beq_eq_false_iff_ne.2 ht
        have d2 : decide (x2 = a1) = false := decide_eq_false ht
        clear hps e1 ht
        have hJ2 := Aside0.mk (HJ.out _ _ (wr.alloc (.cells #[.int .i64 x0, .int .i64 x1, .int .i64 x2, .string x3] 35)) none HJr.out (World.grownBy_alloc wr _ none) (fun r e => by cases e))
        have hbl := below_alloc (Below.refl _ wr) (.cells #[.int .i64 x0, .int .i64 x1, .int .i64 x2, .string x3] 35)
        have HB2 := Aside0.mk (below_then HB.out HB.out.size hbl)
        have BB2 := Aside0.mk (blk_below BKB.out hbl)
        have BC2 := Aside0.mk (blk_below BKC.out hbl)
        have HS2 := Aside0.mk (Nat.le_trans HS.out hbl.size)
        clear hbl
        have hcC2 := (blk_cell BC2.out 0).trans rfl
        gi_wp2
        refine ⟨fun _ h => (by cases h), ?_⟩
        gi_wp2
        go_roundw
        case rel => exact ⟨k + 1, by omega, by go_num, ⟨by rw [PS.out]; simpa using hJ2.out⟩, HB2, HS2, BB2, BC2⟩
        case measure => simp [intOf]; omega
    · gi_wp2
      go_end0
      obtain rfl : k = l.length := by omega
      exact ⟨⟨_, rfl⟩, .inl ⟨_, rfl, HJr.out⟩⟩
end

/-! ### api_Letter_35: function 35 -/
theorem R_tailD {α : Type} {d : Kd α} {e : Nat} {W : World} {base : Nat} {ok : Nat → Prop} {g m c : Nat} {xs : List α} (h : d.R e W base ok (.slice (some ⟨g, 0, none⟩) m c) xs) (news : List Value) (hn : m * d.sz + news.length ≤ c * d.sz) :
    (∀ j, j < news.length → (W.cell? ⟨g, m * d.sz + j, none⟩).isSome = true) ∧ (∀ j, W.frozen? ⟨g, j, none⟩ = false) ∧ d.R e (W.setCells g (m * d.sz) news) base ok (.slice (some ⟨g, 0, none⟩) m c) xs ∧ W.grownBy (W.setCells g (m * d.sz) news) (some g) := by
  obtain ⟨hok, inner, hown, hr⟩ := h
  rcases hown.2 with ⟨hv, _⟩ | ⟨g', cap', cur, hv, hb, hh, hnc, hcm, hcs, htake⟩
  · cases hv
  injection hv with ha hl hc
  injection ha with ha
  injection ha with hg
  subst hg; subst hc; subst hl
  have hfit : xs.length * d.sz + news.length ≤ cur.size := by rw [hcs]; exact hn
  obtain ⟨cur', h3, h4, h5⟩ := setCells_row news (xs.length * d.sz) W cur hh hfit
  obtain ⟨s1, s2, s3, s4⟩ := setCells_same g news (xs.length * d.sz) W
  have hfar : ∀ k', k' ≠ g → (W.setCells g (xs.length * d.sz) news).heap[k']? = W.heap[k']? := fun k' hk' => setCells_far news _ k' hk'
  refine ⟨fun j hj => ?_, fun j => blk_frozen hh j, ⟨hok, inner, ⟨hown.1, .inr ⟨g, c, cur', rfl, hb, h3, hnc, hcm, by rw [h4, hcs], ?_⟩⟩, hr.imp_ (fun p q hp => d.M_move (fun k' hk' => hfar k' (fun he => hk'.2 (by rw [he]; simp [Value.ownBlock]))) hp)⟩, ⟨s1, s2, s3, by rw [s4]; exact Nat.le_refl _, fun k' _ hk' => hfar k' (fun he => hk' (by rw [he]))⟩⟩
  · rw [cell_of_row W g _ cur e (0, 0) hh]
    simp; omega
  · have hle : xs.length * d.sz ≤ cur.size := Nat.le_trans (Nat.le_add_right _ _) hfit
    have hx : xs.length * d.sz ≤ (cur.toList.take (xs.length * d.sz)).length := by rw [List.length_take, Array.length_toList]; exact Nat.le_min.2 ⟨Nat.le_refl _, hle⟩
    rw [h5, List.append_assoc, List.take_append_of_le_length hx, List.take_take, Nat.min_self]
    exact htake
theorem clear_Letter (w1 w2 : World) (g o c : Nat) (hst : (storeCells ⟨g, o, none⟩ [.int .i64 0, .int .i64 0, .int .i64 0, .string ⟨#[]⟩] 0).run Try.prog w1 = .ok () w2) :
    (Builtin.clear_ #[22] 0 #[.slice (some ⟨g, o, none⟩) 1 c]).run Try.prog w1 = .ok (.tuple #[]) w2 := by
  have hz : (zeroValue 35).run Try.prog w1 = .ok (.agg #[.int .i64 0, .int .i64 0, .int .i64 0, .string ⟨#[]⟩]) w1 := by go_simp
  have e0 : (Builtin.zeroCells (Value.agg #[.int .i64 0, .int .i64 0, .int .i64 0, .string ⟨#[]⟩]).cells 1).toList = [.int .i64 0, .int .i64 0, .int .i64 0, .string ⟨#[]⟩] := by simp [Builtin.zeroCells, Value.cells, Array.range_succ]
  simp only [Builtin.clear_, List.getElem?_toArray, List.getElem?_cons_zero, Sem.run_bind, run_underlying Try.underlying22, Result.andThen_ok, hz, e0]
  rw [hst]
  rfl
set_option maxHeartbeats 8000000 in
set_option maxRecDepth 100000 in
theorem delete_Letter_R.calls {base : Nat} {ok : Nat → Prop} {w0 W : World} {g n c : Nat} {xs : List S35} (k : Int) (HO : Kd.R k35 35 W base ok (.slice (some ⟨g, 0, none⟩) n c) xs) (h0 : 0 ≤ k) (hk : k < (n : Int)) (HB : Below base w0 W) (hbase : base ≤ W.heap.size) :
    Calls Try.prog 35 #[.slice (some ⟨g, 0, none⟩) n c, .int .i64 k, .int .i64 (wrap64 (k + 1))] W fun e w1 => e = .returned (.slice (some ⟨g, 0, none⟩) (n - 1) c) ∧ Kd.R k35 35 w1 base ok (.slice (some ⟨g, 0, none⟩) (n - 1) c) (xs.eraseIdx k.toNat) ∧ Below base w0 w1 ∧ W.grownBy w1 (some g) := by
  have hu := Try.underlying35
  obtain ⟨m, rfl⟩ := Int.eq_ofNat_of_zero_le h0
  have hc := (Kd.R_reads' HO).2.1
  have hbig := (Kd.R_reads' HO).2.2.2.1
  have hlen := (Kd.R_reads' HO).1
  have hm : m < n := by omega
  have mixed : Try.prog.follows .mixedOrders = true := by kernel_rfl
  obtain ⟨j, hj⟩ : ∃ j, j = m + 1 := ⟨_, rfl⟩
  have hw : wrap64 ((m : Int) + 1) = (j : Int) := by unfold wrap64; omega
  rw [hw]
  have HO1 := Aside0.mk HO
  have HB1 := Aside0.mk HB
  have HJ := Aside0.mk hj
  have i1 : m < j := by omega
  have i2 : j ≤ n := by omega
  have i3 : m ≤ c := by omega
  have i4 : j ≤ c := by omega
  have i5 : m ≤ n := by omega
  have i6 : ¬ m = j := by omega
  obtain ⟨n1, hn1⟩ : ∃ n1, n1 = n - 1 := ⟨_, rfl⟩
  have i7 : n1 ≤ n := by omega
  have i8 : n1 ≤ c := by omega
  have i9 : ¬ c = n1 := by omega
  have i10 : n - n1 = 1 := by omega
  have HN := Aside0.mk hn1
  have HL := Aside0.mk hlen
  clear HO HB h0 hk hw hlen hj
  rw [← hn1]
  clear hn1
  go_enter Try.func35, Try.ntmps35
  go_wp2_with fail
  go_region_law_o (refine Kd.R_delete_step (w0 := w0) k35 base (by rfl) (.tmp 22) (.tmp 25) 22 35 rfl Try.underlying22 (by kernel_rfl) (g := g) (n := n) (c := c) (k := m) rfl rfl ?hA ?hm (Kd.R_drew HO1.out) ?hk (below_drew HB1.out) hbase ?_; (case hA => rw [← HJ.out]; simp only [Option.map_some, Addr.add_lit, Nat.zero_add]; rfl); (case hm => have := HJ.out; omega); (case hk => omega); intro w1 ho hb hg)
  obtain ⟨t1, t2, t3, t4⟩ := R_tailD ho [.int .i64 0, .int .i64 0, .int .i64 0, .string ⟨#[]⟩] (by show (n - 1) * 4 + 4 ≤ c * 4; omega)
  rw [← HN.out] at ho t1 t3 t4 ⊢
  have hsz : k35.sz = 4 := rfl
  rw [hsz] at t1 t3 t4
  have hst := run_storeCells_cells (P := Try.prog) g (n1 * 4) [.int .i64 0, .int .i64 0, .int .i64 0, .string ⟨#[]⟩] 0 w1 (fun j hj => t1 j hj) (fun j _ => t2 _) (by intro v hv; simp only [List.mem_cons, List.not_mem_nil, or_false] at hv; rcases hv with rfl | rfl | rfl | rfl <;> rfl)
  have hg2 := hg.trans t4
  have hb2 := hb.grown t4 (Nat.le_trans hbase (by obtain ⟨_, _, _, h_, _⟩ := hg; exact h_)) (fun k hk => by injection hk with hk; subst hk; exact Kd.R_base ho _ (by simp [Value.ownBlock]))
  have HT3 := Aside0.mk t3
  have hg3 : W.grownBy _ (some g) := ⟨hg2.os, hg2.tape, hg2.output, hg2.size, hg2.block⟩
  have HG := Aside0.mk hg3
  have HB2 := Aside0.mk hb2
  clear ho t1 t2 t3 t4 hg hg2 hg3 hb hb2
  have hcl := clear_Letter w1 _ g (n1 * 4) (c - n1) hst
  clear hst
  simp only [Nat.add_zero] at hcl
  generalize w1.setCells g (n1 * 4) [.int .i64 0, .int .i64 0, .int .i64 0, .string ⟨#[]⟩] = w2 at hcl HT3 HG HB2
  go_wp2
  all_goals go_ret
  all_goals first | exact ⟨by simp, HT3.out, HB2.out, HG.out⟩ | (have e_ : c = j := (by assumption); subst e_; exact ⟨by simp, HT3.out, HB2.out, HG.out⟩)

end Go.Proofs.Ytofbkpdpgmjllaa.F
