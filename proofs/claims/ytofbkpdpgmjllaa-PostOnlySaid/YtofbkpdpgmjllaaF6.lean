-- Written by a program of this session (xprint.py), out of the translation and of contracts proved by hand.
import Derived.Test.YtofbkpdpgmjllaaF0
import Derived.Test.YtofbkpdpgmjllaaF5
namespace Go.Proofs.Ytofbkpdpgmjllaa.F
open Go.RowKit Go.Proofs.YtofbkpdpgmjllaaW.PrintWords Go.Proofs.YtofbkpdpgmjllaaW.PrintLast Go.Proofs.YtofbkpdpgmjllaaW.PrintMore
attribute [local go_sem] max2_int min2_int max_two min_two max_three min_three max_four min_four   -- for this text's walks alone
set_option linter.unusedVariables false
set_option linter.unusedSimpArgs false

/-! ### slices_ContainsFunc_string_string: function 30 -/
theorem ix_S_any (p : ByteArray → Bool) (l : List ByteArray) : decide ((0 : Int) ≤ ix_S p l) = l.any p := by
  unfold ix_S
  cases h : l.findIdx? p with
  | none =>
    rw [List.findIdx?_eq_none_iff] at h
    have h2 : l.any p = false := by
      rw [List.any_eq_false]
      intro x hx
      rw [h x hx]; decide
    rw [h2]; rfl
  | some i =>
    rw [List.findIdx?_eq_some_iff_getElem] at h
    obtain ⟨hi, hp, _⟩ := h
    have h2 : l.any p = true := by
      rw [List.any_eq_true]
      exact ⟨l[i], List.getElem_mem hi, hp⟩
    rw [h2]
    exact decide_eq_true (Int.natCast_nonneg i)
set_option maxHeartbeats 8000000 in
set_option maxRecDepth 100000 in
theorem contfunc_S.calls (p : ByteArray → Bool) (g : Nat) (lb : Array Value) (eg : ∀ args w, (callFunc g args).run Try.prog w = .ok (.enter g args) w) (A0 : Option Addr) (c0 : Nat) (l0 : List ByteArray) (w : World)
    (hp : ∀ (W : World) (x : ByteArray), Below w.heap.size w W → Calls Try.prog g (#[.string x] ++ lb) W fun e w' => e = .returned (.bool (p x)) ∧ Below w.heap.size w w')
    (hr0 : Kd.C Kd.string w A0 l0.length l0) :
    Calls Try.prog 30 #[.slice A0 l0.length c0, .func (.func g) #[] lb] w fun e w' => e = .returned (.bool (l0.any p)) ∧ Below w.heap.size w w' := by
  have HR0 := Aside0.mk hr0
  have HP := Aside0.mk hp
  rw [← ix_S_any]
  generalize hq : ix_S p l0 = q
  have Q := Aside0.mk hq
  clear hr0 hp hq
  go_enter Try.func30, Try.ntmps30
  go_wp2_with (go_at_call 41; refine (ixfunc_S.calls p g lb eg A0 c0 l0 _ HP.out HR0.out).mono ?_; rintro e w' ⟨rfl, hb'⟩; rw [Q.out])
  go_ret
  exact ⟨rfl, hb'⟩

/-! ### post_to: function 40 -/
def toP (n : Int) (x : S35) : Bool := decide (x.f2 = n)
/-- The places of the letters to n. -/
def places (n : Int) (l : List S35) (k : Nat) : List (Fin l.length) := ((List.finRange l.length).take k).filter (fun i => toP n l[i])
theorem places_zero (n : Int) (l : List S35) : places n l 0 = [] := rfl
theorem places_succ (n : Int) (l : List S35) (k : Nat) (hk : k < l.length) : places n l (k + 1) = places n l k ++ (if toP n l[k] = true then [⟨k, hk⟩] else []) := by
  unfold places
  rw [List.take_add_one, List.filter_append]
  congr 1
  rw [List.getElem?_eq_getElem (by simpa using hk)]
  simp [List.filter_cons]
theorem places_all (n : Int) (l : List S35) : (places n l l.length).map (fun i => l[i]) = l.filter (toP n) := by
  have key : ∀ k, k ≤ l.length → (places n l k).map (fun i => l[i]) = (l.take k).filter (toP n) := by
    intro k
    induction k with
    | zero => intro _; rw [places_zero]; rfl
    | succ k ih =>
      intro hk
      rw [places_succ n l k (by omega), List.map_append, ih (by omega), List.take_succ_eq_append_getElem (by omega), List.filter_append]
      congr 1
      by_cases h : toP n l[k] = true
      · rw [if_pos h]; simp [List.filter_cons, h]
      · rw [if_neg h]; simp [List.filter_cons, h]
  rw [key _ (Nat.le_refl _), List.take_length]
/-- What an iterator over letters wants kept in a round: what lay below m, and its own two boxes. -/
structure KpTo (m B C : Nat) (W W' : World) : Prop where
  bel : Below m W W'
  one : ∀ o, W.heap[B]? = some o → W'.heap[B]? = some o
  two : ∀ o, W.heap[C]? = some o → W'.heap[C]? = some o
theorem KpTo.t {m B C : Nat} {X Y Z : World} (h : KpTo m B C X Y) (k : KpTo m B C Y Z) : KpTo m B C X Z := ⟨h.bel.trans k.bel, fun o ho => k.one o (h.one o ho), fun o ho => k.two o (h.two o ho)⟩
theorem KpTo.b {m B C : Nat} {w : World} (hm : m ≤ w.heap.size) (hB : B < w.heap.size) (hC : C < w.heap.size) (W : World) (l : Nat) (o o' : Obj) (hl : w.heap.size ≤ l) (h : W.heap[l]? = some o) (h1 : o.isCells = false) (h2 : o.isWalk = false) : KpTo m B C W (W.putObj l o') :=
  ⟨belowK_b hm W l o o' hl h h1 h2, fun x hx => (World.putObj_heap_other (by omega)).trans hx, fun x hx => (World.putObj_heap_other (by omega)).trans hx⟩
theorem post_to.calls (a0 : Int) (A : Option Addr) (n c : Nat) (a1 : Int) (w : World) :
    Calls Try.prog 40 #[.agg #[.int .i64 a0, .slice A n c], .int .i64 a1] w fun e w' => e = .returned (.func (.func 45) #[] #[.pointer (some ⟨w.heap.size, 0, none⟩), .pointer (some ⟨w.heap.size + 1, 0, none⟩)]) ∧ w' = (w.alloc (.cells #[.int .i64 a0, .slice A n c] 24)).alloc (.cells #[.int .i64 a1] 3) := by
  have hu := Try.underlying24
  go_enter Try.func40, Try.ntmps40
  go_wp2
  go_ret
  exact ⟨rfl, rfl⟩
theorem places_lt (n : Int) (l : List S35) (k : Nat) (hk : k < l.length) : (places n l k).length < l.length := by
  unfold places
  refine Nat.lt_of_le_of_lt (List.length_filter_le _ _) ?_
  rw [List.length_take, List.length_finRange]; omega
section
attribute [local go_sem] Oper.semAt_some
set_option maxRecDepth 100000 in
set_option maxHeartbeats 2000000 in
/-- The iterator over the places of the letters to one. -/
theorem post_to1.stops (n : Nat) (hn : 1 ≤ n) (a0 a1 : Int) (A : Option Addr) (c : Nat) (l : List S35) (w0 w : World) (B C : Nat) (hr : Kd.C k35 w0 A l.length l) (hw : Below w0.heap.size w0 w)
    (hB : w.heap[B]? = some (.cells #[.int .i64 a0, .slice A l.length c] 24 (0, 0))) (hC : w.heap[C]? = some (.cells #[.int .i64 a1] 3 (0, 0))) :
    SeqStopsK Fence.wide n Try.prog 45 #[.pointer (some ⟨B, 0, none⟩), .pointer (some ⟨C, 0, none⟩)] (fun i : Fin l.length => #[Value.int .i64 (i.1 : Int)]) (KpTo w0.heap.size B C) (fun xs => xs = places a1 l l.length) (fun _ => True) l.length w := fun y J Jx W hW hJ hJx hY h0 => by
  have hu := Try.underlying24
  have hu2 := Try.underlying35
  have hbig := hr.2.1
  have HR := Aside0.mk hr
  have HJ := Aside0.mk hJ
  have HY := Aside0.mk hY
  have h0' : J (places a1 l 0) W := h0
  have BKB := Aside0.mk (blk_below hB hW)
  have BKC := Aside0.mk (blk_below hC hW)
  have HB := Aside0.mk (hw.trans (hW.mono hw.size) : Below w0.heap.size w0 W)
  clear hr hJ hY h0 hB hC hw hW
  have hcB : W.cell? ⟨B, 1, none⟩ = some (.slice A l.length c) := (blk_cell BKB.out 1).trans rfl
  refine callsIn_of_wp Try.func45 rfl trivial ?_ rfl
  simp only [Try.ntmps45, List.size_toArray, List.length_cons, List.length_nil, Nat.reduceAdd, Nat.reduceSub, Array.replicate_succ, Array.replicate_zero, List.push_toArray, List.append_toArray, List.nil_append, List.cons_append]
  gi_wp2
  gi_loopw [9] (fun i wr => ∃ k : Nat, k ≤ l.length ∧ i = .int .i64 k ∧ Aside0 (J (places a1 l k) wr) ∧ Aside0 (Below w0.heap.size w0 wr) ∧ Aside0 (W.heap.size ≤ wr.heap.size) ∧ Aside0 (wr.heap[B]? = some (.cells #[.int .i64 a0, .slice A l.length c] 24 (0, 0))) ∧ Aside0 (wr.heap[C]? = some (.cells #[.int .i64 a1] 3 (0, 0)))) (fun i _ => l.length - (intOf i).toNat)
  case atStart => exact ⟨0, Nat.zero_le _, rfl, ⟨h0'⟩, HB, ⟨Nat.le_refl _⟩, BKB, BKC⟩
  case round =>
    clear hcB HB BKB BKC
    obtain ⟨k, hk, rfl, HJr, HB, HS, BKB, BKC⟩ := hrel
    have hneC : C ≠ wr.heap.size := Nat.ne_of_lt (blk_lt BKC.out)
    by_cases hlt : k < l.length
    · have hltz : (k : Int) < (l.length : Int) := by omega
      obtain ⟨ad, e0, hx0, hx1, hx2, hx3⟩ := at_T35 (Kd.C_below HR.out HB.out) (k : Int) (by omega) hltz
      cases e0
      simp only [Int.toNat_natCast] at hx0 hx1 hx2 hx3
      have hrd : rd_T35 l (k : Int) = l[k] := by simp [rd_T35, List.getD_eq_getElem?_getD, List.getElem?_eq_getElem hlt]
      have hps := places_succ a1 l k hlt
      rw [← hrd] at hps
      generalize hy_ : rd_T35 l (k : Int) = y_ at hx0 hx1 hx2 hx3 hps
      clear hrd hy_
      obtain ⟨x0, x1, x2, x3⟩ := y_
      by_cases ht : x2 = a1
      · subst ht
        have e1 : toP x2 ⟨x0, x1, x2, x3⟩ = true := by simp [toP]
        rw [if_pos e1] at hps
        have PS := Aside0.mk hps
        clear hps e1
        have hJ2 := HJ.out _ _ (wr.alloc (.cells #[.int .i64 x0, .int .i64 x1, .int .i64 x2, .string x3] 35)) none HJr.out (World.grownBy_alloc wr _ none) (fun r e => by cases e)
        have hbl := below_alloc (Below.refl _ wr) (.cells #[.int .i64 x0, .int .i64 x1, .int .i64 x2, .string x3] 35)
        obtain ⟨fn, tmps, assign, body, hy, hR⟩ := HY.out _ ⟨k, hlt⟩ _ hJ2 (places_lt _ _ _ hlt)
        have HR2 := Aside0.mk hR
        have HB2 := Aside0.mk (below_then HB.out HB.out.size hbl)
        have BB2 := Aside0.mk (blk_below BKB.out hbl)
        have BC2 := Aside0.mk (blk_below BKC.out hbl)
        have HS2 := Aside0.mk (Nat.le_trans HS.out hbl.size)
        clear hJ2 hbl hR
        have hcC2 := (blk_cell BC2.out 0).trans rfl
        dsimp only at hy
        gi_wp2
        refine HR2.out.mono ?_
        rintro e W3 (⟨rfl, hJ3, hk3⟩ | ⟨rfl, hJx3⟩)
        · have N1 := Aside0.mk hJ3
          have N2 := Aside0.mk (HB2.out.trans hk3.bel)
          have N3 := Aside0.mk (hk3.one _ BB2.out)
          have N4 := Aside0.mk (hk3.two _ BC2.out)
          have N5 := Aside0.mk (Nat.le_trans HS2.out hk3.bel.size)
          clear hJ3 hk3
          gi_wp2
          go_roundw
          case rel => exact ⟨k + 1, by omega, by go_num, ⟨by rw [PS.out]; exact N1.out⟩, N2, N5, N3, N4⟩
          case measure => simp [intOf]; omega
        · gi_wp2
          refine bodyPost_ret (results_none rfl _ _ _) rfl ?_
          exact ⟨⟨_, rfl⟩, .inr ⟨_, trivial, hJx3⟩⟩
      · have e1 : toP a1 ⟨x0, x1, x2, x3⟩ = false := by simp [toP, ht]
        rw [e1] at hps
        have PS := Aside0.mk hps
        have d1 : (x2 == a1) = false := beq_eq_false_iff_ne.2 ht
        have d2 : decide (x2 = a1) = false := decide_eq_false ht
        clear hps e1 ht
        have hJ2 := Aside0.mk (HJ.out _ _ (wr.alloc (.cells #[.int .i64 x0, .int .i64 x1, .int .i64 x2, .string x3] 35)) none HJr.out (World.grownBy_alloc wr _ none) (fun r e => by cases e))
        have hbl := below_alloc (Below.refl _ wr) (.cells #[.int .i64 x0, .int .i64 x1, .int .i64 x2, .string x3] 35)
        have HB2 := Aside0.mk (below_then HB.out HB.out.size hbl)
        have BB2 := Aside0.mk (blk_below BKB.out hbl)
        have BC2 := Aside0.mk (blk_below BKC.out hbl)
        have HS2 := Aside0.mk (Nat.le_trans HS.out hbl.size)
        clear hbl
        have hcC2 := (blk_cell BC2.out 0).trans rfl
        gi_wp2
        refine ⟨fun _ h => (by cases h), ?_⟩
        gi_wp2
        go_roundw
        case rel => exact ⟨k + 1, by omega, by go_num, ⟨by rw [PS.out]; simpa using hJ2.out⟩, HB2, HS2, BB2, BC2⟩
        case measure => simp [intOf]; omega
    · gi_wp2
      go_end0
      obtain rfl : k = l.length := by omega
      exact ⟨⟨_, rfl⟩, .inl ⟨_, rfl, HJr.out⟩⟩
end

end Go.Proofs.Ytofbkpdpgmjllaa.F
