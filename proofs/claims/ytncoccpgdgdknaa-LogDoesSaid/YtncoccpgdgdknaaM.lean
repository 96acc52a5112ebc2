/- What Concat, Join, Put, Since and OwnTexts of chapter 23 compute: rows cut and joined. No condition but sizes. -/
import Derived.Test.YtncoccpgdgdknaaF3
import Derived.Test.YtncoccpgdgdknaaF2
import Derived.Test.YtncoccpgdgdknaaF1
import Derived.Test.YtncoccpgdgdknaaL
set_option linter.unusedSimpArgs false
namespace Go.Proofs.Ytncoccpgdgdknaa.F
open Go.RowKit Go.Proofs.YtncoccpgdgdknaaV.PrintWords Go.Proofs.YtncoccpgdgdknaaV.PrintLast
theorem wrz : wrap64 1 = 1 := by unfold wrap64; omega
theorem wro : wrap64 2 = 2 := by unfold wrap64; omega
theorem wrn {i : Int} (h : -9223372036854775808 ≤ i) (h' : i ≤ 9223372036854775807) : wrap64 i = i := by unfold wrap64; omega
theorem rd2a (x y : List ByteArray) : rd_L2 [x, y] 0 = x := rfl
theorem rd2b (x y : List ByteArray) : rd_L2 [x, y] 1 = y := rfl
theorem concat2_ev (x y : List ByteArray) (hx : x.length < 1000000000) (hy : y.length < 1000000000) : Ev (fun k => slices_Concat_string_string.f k [x, y]) (x ++ y) := by
  unfold slices_Concat_string_string.f
  refine Ev.step (fun k => by rw [slices_Concat_string_string.l0]) ?_
  simp only [rd2a, rd2b, wrz, Int.reduceAdd, List.length_cons, List.length_nil, Int.zero_add]
  have e1 : wrap64 (x.length : Int) = (x.length : Int) := wrn (by omega) (by omega)
  have e2 : wrap64 ((x.length : Int) + (y.length : Int)) = (x.length : Int) + (y.length : Int) := wrn (by omega) (by omega)
  rw [e1]
  refine ev_pos (by omega) ?_
  refine ev_pos (by omega) ?_
  refine ev_pos (by omega) ?_
  refine ev_neg (by omega) ?_
  refine Ev.step (fun k => by rw [slices_Concat_string_string.l0]) ?_
  simp only [rd2a, rd2b, wro, Int.reduceAdd, List.length_cons, List.length_nil, e2]
  refine ev_pos (by decide) ?_
  refine ev_pos (by omega) ?_
  refine ev_pos (by decide) ?_
  refine ev_neg (by omega) ?_
  refine Ev.step (fun k => by rw [slices_Concat_string_string.l0]) ?_
  simp only [List.length_cons, List.length_nil]
  refine ev_neg (by decide) ?_
  have eg : slices_Grow_string_string.f [] ((x.length : Int) + (y.length : Int)) = some [] := by
    unfold slices_Grow_string_string.f
    rw [if_pos (by omega), if_pos (by omega)]
  rw [eg]
  simp only [Option.bind_some]
  refine Ev.step (fun k => by rw [slices_Concat_string_string.l1]) ?_
  simp only [rd2a, rd2b, wrz, Int.reduceAdd, List.length_cons, List.length_nil]
  refine ev_pos (by decide) ?_
  refine ev_pos (by omega) ?_
  refine ev_pos (by decide) ?_
  refine ev_pos (by omega) ?_
  refine Ev.step (fun k => by rw [slices_Concat_string_string.l1]) ?_
  simp only [rd2a, rd2b, wro, Int.reduceAdd, List.length_cons, List.length_nil, List.nil_append]
  refine ev_pos (by decide) ?_
  refine ev_pos (by omega) ?_
  refine ev_pos (by decide) ?_
  refine ev_pos (by omega) ?_
  refine Ev.step (fun k => by rw [slices_Concat_string_string.l1]) ?_
  simp only [List.length_cons, List.length_nil]
  exact ev_neg (by decide) (Ev.now _)
theorem clone_is (l : List ByteArray) (h : l.length < 1000000000) : slices_Clone_string_string.f l = some l := by
  unfold slices_Clone_string_string.f
  rw [if_pos (by omega)]
theorem own_is (l : List ByteArray) (h : l.length < 1000000000) : watchmanref01_OwnTexts.f l = some l := by
  unfold watchmanref01_OwnTexts.f
  rw [if_pos (by simp; omega), List.nil_append]
theorem since_is (l : List ByteArray) (n : Int) (h : l.length < 1000000000) (h0 : 0 ≤ n) : log_Since.f l n = some (l.drop n.toNat) := by
  unfold log_Since.f
  rw [if_neg (by omega)]
  by_cases h1 : n ≥ (l.length : Int)
  · rw [if_pos h1, List.drop_eq_nil_of_le (by omega)]
  · rw [if_neg h1, if_pos h0, if_pos (by omega), clone_is _ (by rw [List.length_drop]; omega)]
    rfl
theorem put_is (l : List ByteArray) (s : ByteArray) (h : l.length < 1000000000) : log_Put.f l (wrap64 ((l.length : Int) + 1)) s = some (l ++ [s], true) := by
  unfold log_Put.f
  rw [if_pos rfl, clone_is _ h]
  simp only [Option.bind_some]
  rw [if_pos (by omega)]
theorem join_yes (l m : List ByteArray) (n : Int) (hl : l.length < 1000000000) (hm : m.length < 1000000000) (h0 : 0 ≤ n) (h1 : n ≤ (l.length : Int)) : Ev (fun k => log_Join.f k l n m) (l.take n.toNat ++ m, true) := by
  unfold log_Join.f
  refine ev_neg (by omega) ?_
  rw [decide_eq_false (by omega : ¬ n > (l.length : Int))]
  refine Ev.step (fun k => by rw [log_Join.j0]) ?_
  refine ev_neg (by decide) ?_
  refine ev_pos h0 ?_
  refine ev_pos h1 ?_
  exact Ev.bind (concat2_ev (l.take n.toNat) m (by rw [List.length_take]; omega) hm) (Ev.now _)
theorem join_no (l m : List ByteArray) (n : Int) (hl : l.length < 1000000000) (h : ¬ (0 ≤ n ∧ n ≤ (l.length : Int))) : Ev (fun k => log_Join.f k l n m) (l, false) := by
  unfold log_Join.f
  have hj : Ev (fun k => log_Join.j0 k l n m true) (l, false) := by
    refine Ev.step (fun k => by rw [log_Join.j0]) ?_
    refine ev_pos rfl ?_
    rw [clone_is _ hl]
    exact Ev.now _
  by_cases h0 : n < 0
  · exact ev_pos h0 hj
  · refine ev_neg h0 ?_
    rw [decide_eq_true (by omega : n > (l.length : Int))]
    exact hj
end Go.Proofs.Ytncoccpgdgdknaa.F
