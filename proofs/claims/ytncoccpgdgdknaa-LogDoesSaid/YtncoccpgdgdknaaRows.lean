/-
  No cell of these rows narrows 'for every input' (looked for: loops, veiled, ifaces, maps, wideKeys, modest, calm, conditions, laid).
  DERIVED. THE GIVEN ROWS OF THIS SEAT. 5 by the template 'for every input the law returns true; each argument reads behind the call as it read before'; 0 by the template 'total and deterministic' (their statements: YtncoccpgdgdknaaTotals.lean).
  GIVEN WITH THE SEED: the statements are not yours to turn. If you find one false, say at which input.
  Laid BY PROGRAM, IN A SANDBOX (cutbox-rows.mjs): the forced cells as the released guide's own fill.sh prints them over the translation 5b58545dccc3f17a… (all of the seat's roots in one cut). By AI agents, Wed Nov 11 2026. No macro, syntax, notation, axiom, sorry.
-/
import Derived.Test.YtncoccpgdgdknaaChecked
import GoSem.Claim
import GoSem.ClaimJoined
import GoSem.ClaimMapViews
import Derived.JoinedTies
import Derived.KernelRfl
namespace Go.Proofs.Ytncoccpgdgdknaa
/- THE CELL 'sum', in the pinned program and in every row, IS THE sha256 OF THE DUMP (.gsa) THAT YtncoccpgdgdknaaProg.lean LOADS. Nothing in Lean hashes anything: it is a label: what it is worth is what the hold of that sum in a sandbox is worth. -/
noncomputable def Try.pinned : Pinned := { name := "ytncoccpgdgdknaa", sum := "5b58545dccc3f17abb9118ed1527f71889d1fcc08a6705cba5725b10a941c48c", checked := Try.checked }
namespace Rows
def none {H : Type} : Left H := { results := [], args := [] }

/-- 'watchmanlaw23.LogFront': WHATEVER THE INPUT: true; the input reads as it did. -/
def logFrontSpec : ChangeSpec := { name := "logFront", fn := fun _ => fun
  | [d1, d2, d3] => { results := [.lit (.bool true)], args := [d1, d2, d3] }
  | _ => none }
def logFrontRow : OpenClaim := { program := "ytncoccpgdgdknaa", sum := "5b58545dccc3f17abb9118ed1527f71889d1fcc08a6705cba5725b10a941c48c", func := "watchman/watchmanlaw23.LogFront", spec := "logFront", apart := false }
def LogFrontSaid : Prop := logFrontRow.holds Try.pinned (OpenSpec.ofChange logFrontSpec)

/-- ITS FALSE NEIGHBOUR: 'it returns false'. Refute it at one input. -/
def logFrontWrong : ChangeSpec := { name := "logFront", fn := fun _ => fun
  | [d1, d2, d3] => { results := [.lit (.bool false)], args := [d1, d2, d3] }
  | _ => none }
def LogFrontWrongFalsely : Prop := logFrontRow.holds Try.pinned (OpenSpec.ofChange logFrontWrong)

/-- 'watchmanlaw23.LogJoins': WHATEVER THE INPUT: true; the input reads as it did. -/
def logJoinsSpec : ChangeSpec := { name := "logJoins", fn := fun _ => fun
  | [d1, d2, d3] => { results := [.lit (.bool true)], args := [d1, d2, d3] }
  | _ => none }
def logJoinsRow : OpenClaim := { program := "ytncoccpgdgdknaa", sum := "5b58545dccc3f17abb9118ed1527f71889d1fcc08a6705cba5725b10a941c48c", func := "watchman/watchmanlaw23.LogJoins", spec := "logJoins", apart := false }
def LogJoinsSaid : Prop := logJoinsRow.holds Try.pinned (OpenSpec.ofChange logJoinsSpec)

/-- ITS FALSE NEIGHBOUR: 'it returns false'. Refute it at one input. -/
def logJoinsWrong : ChangeSpec := { name := "logJoins", fn := fun _ => fun
  | [d1, d2, d3] => { results := [.lit (.bool false)], args := [d1, d2, d3] }
  | _ => none }
def LogJoinsWrongFalsely : Prop := logJoinsRow.holds Try.pinned (OpenSpec.ofChange logJoinsWrong)

/-- 'watchmanlaw23.LogThree': WHATEVER THE INPUT: true; the input reads as it did. -/
def logThreeSpec : ChangeSpec := { name := "logThree", fn := fun _ => fun
  | [d1, d2, d3] => { results := [.lit (.bool true)], args := [d1, d2, d3] }
  | _ => none }
def logThreeRow : OpenClaim := { program := "ytncoccpgdgdknaa", sum := "5b58545dccc3f17abb9118ed1527f71889d1fcc08a6705cba5725b10a941c48c", func := "watchman/watchmanlaw23.LogThree", spec := "logThree", apart := false }
def LogThreeSaid : Prop := logThreeRow.holds Try.pinned (OpenSpec.ofChange logThreeSpec)

/-- ITS FALSE NEIGHBOUR: 'it returns false'. Refute it at one input. -/
def logThreeWrong : ChangeSpec := { name := "logThree", fn := fun _ => fun
  | [d1, d2, d3] => { results := [.lit (.bool false)], args := [d1, d2, d3] }
  | _ => none }
def LogThreeWrongFalsely : Prop := logThreeRow.holds Try.pinned (OpenSpec.ofChange logThreeWrong)

/-- 'watchmanlaw23.LogDoes': WHATEVER THE INPUT: true; the input reads as it did. -/
def logDoesSpec : ChangeSpec := { name := "logDoes", fn := fun _ => fun
  | [d1, d2, d3, d4, d5, d6] => { results := [.lit (.bool true)], args := [d1, d2, d3, d4, d5, d6] }
  | _ => none }
def logDoesRow : OpenClaim := { program := "ytncoccpgdgdknaa", sum := "5b58545dccc3f17abb9118ed1527f71889d1fcc08a6705cba5725b10a941c48c", func := "watchman/watchmanlaw23.LogDoes", spec := "logDoes", apart := false }
def LogDoesSaid : Prop := logDoesRow.holds Try.pinned (OpenSpec.ofChange logDoesSpec)

/-- ITS FALSE NEIGHBOUR: 'it returns false'. Refute it at one input. -/
def logDoesWrong : ChangeSpec := { name := "logDoes", fn := fun _ => fun
  | [d1, d2, d3, d4, d5, d6] => { results := [.lit (.bool false)], args := [d1, d2, d3, d4, d5, d6] }
  | _ => none }
def LogDoesWrongFalsely : Prop := logDoesRow.holds Try.pinned (OpenSpec.ofChange logDoesWrong)

/-- 'watchmanlaw23.LogBest': WHATEVER THE INPUT: true; the input reads as it did. -/
def logBestSpec : ChangeSpec := { name := "logBest", fn := fun _ => fun
  | [d1, d2] => { results := [.lit (.bool true)], args := [d1, d2] }
  | _ => none }
def logBestRow : OpenClaim := { program := "ytncoccpgdgdknaa", sum := "5b58545dccc3f17abb9118ed1527f71889d1fcc08a6705cba5725b10a941c48c", func := "watchman/watchmanlaw23.LogBest", spec := "logBest", apart := false }
def LogBestSaid : Prop := logBestRow.holds Try.pinned (OpenSpec.ofChange logBestSpec)

/-- ITS FALSE NEIGHBOUR: 'it returns false'. Refute it at one input. -/
def logBestWrong : ChangeSpec := { name := "logBest", fn := fun _ => fun
  | [d1, d2] => { results := [.lit (.bool false)], args := [d1, d2] }
  | _ => none }
def LogBestWrongFalsely : Prop := logBestRow.holds Try.pinned (OpenSpec.ofChange logBestWrong)

/- THE SECOND FORM. 'bulk': how many values and letters a reading holds, each counted each time it is reached (what is shared counts as often as it is met; a slice's spare places count too). A statement '..UptoSaid' is the law's where the arguments, and the package variables that the reading takes, are together of bulk at most 1048576: NARROWER than '..Said'. Prove '..Said' where nothing that the law and all that it calls make is longer than what came in: it says more and counts as full. Else prove '..UptoSaid'. A law counts once. -/
mutual
def uptoBulk {H : Type} : DataW H → Nat
  | .lit (.string bytes) => bytes.length + 1
  | .lit _ => 1
  | .nil => 1
  | .ptr d => uptoBulk d + 1
  | .slice elems spare => uptoBulkAll elems + uptoBulkAll spare + 1
  | .agg parts => uptoBulkAll parts + 1
  | .iface _ d => uptoBulk d + 1
  | .map entries => uptoBulkEntries entries + 1
  | .held _ => 1
def uptoBulkAll {H : Type} : List (DataW H) → Nat
  | [] => 0
  | d :: r => uptoBulk d + uptoBulkAll r
def uptoBulkEntries {H : Type} : List (Lit × DataW H) → Nat
  | [] => 0
  | x :: r => uptoBulkEntry x + uptoBulkEntries r
def uptoBulkEntry {H : Type} : Lit × DataW H → Nat
  | (.string bytes, d) => bytes.length + uptoBulk d + 1
  | (_, d) => uptoBulk d + 1
 end
def uptoSmall : (H : Type) → List (DataW H) → Bool := fun _ ds => decide (uptoBulkAll ds ≤ 1048576)
def OpenSpec.upto (s : _root_.Go.ChangeSpec) : _root_.Go.OpenSpec := { _root_.Go.OpenSpec.ofChange s with cond := some uptoSmall }

/-- 'watchmanlaw23.LogFront', WHERE WHAT IT READS IS OF BULK AT MOST 1048576: true; the input reads as it did. -/
def logFrontUptoRow : OpenClaim := { program := "ytncoccpgdgdknaa", sum := "5b58545dccc3f17abb9118ed1527f71889d1fcc08a6705cba5725b10a941c48c", func := "watchman/watchmanlaw23.LogFront", spec := "logFront", apart := false, narrowed := true }
def LogFrontUptoSaid : Prop := logFrontUptoRow.holds Try.pinned (OpenSpec.upto logFrontSpec)

/-- 'watchmanlaw23.LogJoins', WHERE WHAT IT READS IS OF BULK AT MOST 1048576: true; the input reads as it did. -/
def logJoinsUptoRow : OpenClaim := { program := "ytncoccpgdgdknaa", sum := "5b58545dccc3f17abb9118ed1527f71889d1fcc08a6705cba5725b10a941c48c", func := "watchman/watchmanlaw23.LogJoins", spec := "logJoins", apart := false, narrowed := true }
def LogJoinsUptoSaid : Prop := logJoinsUptoRow.holds Try.pinned (OpenSpec.upto logJoinsSpec)

/-- 'watchmanlaw23.LogThree', WHERE WHAT IT READS IS OF BULK AT MOST 1048576: true; the input reads as it did. -/
def logThreeUptoRow : OpenClaim := { program := "ytncoccpgdgdknaa", sum := "5b58545dccc3f17abb9118ed1527f71889d1fcc08a6705cba5725b10a941c48c", func := "watchman/watchmanlaw23.LogThree", spec := "logThree", apart := false, narrowed := true }
def LogThreeUptoSaid : Prop := logThreeUptoRow.holds Try.pinned (OpenSpec.upto logThreeSpec)

/-- 'watchmanlaw23.LogDoes', WHERE WHAT IT READS IS OF BULK AT MOST 1048576: true; the input reads as it did. -/
def logDoesUptoRow : OpenClaim := { program := "ytncoccpgdgdknaa", sum := "5b58545dccc3f17abb9118ed1527f71889d1fcc08a6705cba5725b10a941c48c", func := "watchman/watchmanlaw23.LogDoes", spec := "logDoes", apart := false, narrowed := true }
def LogDoesUptoSaid : Prop := logDoesUptoRow.holds Try.pinned (OpenSpec.upto logDoesSpec)

/-- 'watchmanlaw23.LogBest', WHERE WHAT IT READS IS OF BULK AT MOST 1048576: true; the input reads as it did. -/
def logBestUptoRow : OpenClaim := { program := "ytncoccpgdgdknaa", sum := "5b58545dccc3f17abb9118ed1527f71889d1fcc08a6705cba5725b10a941c48c", func := "watchman/watchmanlaw23.LogBest", spec := "logBest", apart := false, narrowed := true }
def LogBestUptoSaid : Prop := logBestUptoRow.holds Try.pinned (OpenSpec.upto logBestSpec)

end Rows
end Go.Proofs.Ytncoccpgdgdknaa
