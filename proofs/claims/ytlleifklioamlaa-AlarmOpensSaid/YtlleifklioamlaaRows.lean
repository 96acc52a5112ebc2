/-
  No cell of these rows narrows 'for every input' (looked for: loops, veiled, ifaces, maps, wideKeys, modest, calm, conditions, laid).
  DERIVED. THE GIVEN ROWS OF THIS SEAT. 6 by the template 'for every input the law returns true; each argument reads behind the call as it read before'; 0 by the template 'total and deterministic' (their statements: YtlleifklioamlaaTotals.lean).
  GIVEN WITH THE SEED: the statements are not yours to turn. If you find one false, say at which input.
  Laid BY PROGRAM, IN A SANDBOX (cutbox-rows.mjs): the forced cells as the released guide's own fill.sh prints them over the translation 8ccab6ca18b14759… (all of the seat's roots in one cut). By AI agents, Wed Nov 11 2026. No macro, syntax, notation, axiom, sorry.
-/
import Derived.Test.YtlleifklioamlaaChecked
import GoSem.Claim
import GoSem.ClaimJoined
import GoSem.ClaimMapViews
import Derived.JoinedTies
import Derived.KernelRfl
namespace Go.Proofs.Ytlleifklioamlaa
/- THE CELL 'sum', in the pinned program and in every row, IS THE sha256 OF THE DUMP (.gsa) THAT YtlleifklioamlaaProg.lean LOADS. Nothing in Lean hashes anything: it is a label: what it is worth is what the hold of that sum in a sandbox is worth. -/
noncomputable def Try.pinned : Pinned := { name := "ytlleifklioamlaa", sum := "8ccab6ca18b1475920bb03d5083e9e2c2b182955d8934db269e01601c762c91c", checked := Try.checked }
namespace Rows
def none {H : Type} : Left H := { results := [], args := [] }

/-- 'watchmanlaw06.AlarmDoes': WHATEVER THE INPUT: true; the input reads as it did. -/
def alarmDoesSpec : ChangeSpec := { name := "alarmDoes", fn := fun _ => fun
  | [d1, d2, d3, d4] => { results := [.lit (.bool true)], args := [d1, d2, d3, d4] }
  | _ => none }
def alarmDoesRow : OpenClaim := { program := "ytlleifklioamlaa", sum := "8ccab6ca18b1475920bb03d5083e9e2c2b182955d8934db269e01601c762c91c", func := "watchman/watchmanlaw06.AlarmDoes", spec := "alarmDoes", unfollowed := true, recurses := true, apart := false }
def AlarmDoesSaid : Prop := alarmDoesRow.holds Try.pinned (OpenSpec.ofChange alarmDoesSpec)

/-- ITS FALSE NEIGHBOUR: 'it returns false'. Refute it at one input. -/
def alarmDoesWrong : ChangeSpec := { name := "alarmDoes", fn := fun _ => fun
  | [d1, d2, d3, d4] => { results := [.lit (.bool false)], args := [d1, d2, d3, d4] }
  | _ => none }
def AlarmDoesWrongFalsely : Prop := alarmDoesRow.holds Try.pinned (OpenSpec.ofChange alarmDoesWrong)

/-- 'watchmanlaw06.AlarmPass': WHATEVER THE INPUT: true; the input reads as it did. -/
def alarmPassSpec : ChangeSpec := { name := "alarmPass", fn := fun _ => fun
  | [d1, d2, d3] => { results := [.lit (.bool true)], args := [d1, d2, d3] }
  | _ => none }
def alarmPassRow : OpenClaim := { program := "ytlleifklioamlaa", sum := "8ccab6ca18b1475920bb03d5083e9e2c2b182955d8934db269e01601c762c91c", func := "watchman/watchmanlaw06.AlarmPass", spec := "alarmPass", unfollowed := true, recurses := true, apart := false }
def AlarmPassSaid : Prop := alarmPassRow.holds Try.pinned (OpenSpec.ofChange alarmPassSpec)

/-- ITS FALSE NEIGHBOUR: 'it returns false'. Refute it at one input. -/
def alarmPassWrong : ChangeSpec := { name := "alarmPass", fn := fun _ => fun
  | [d1, d2, d3] => { results := [.lit (.bool false)], args := [d1, d2, d3] }
  | _ => none }
def AlarmPassWrongFalsely : Prop := alarmPassRow.holds Try.pinned (OpenSpec.ofChange alarmPassWrong)

/-- 'watchmanlaw06.AlarmDue': WHATEVER THE INPUT: true; the input reads as it did. -/
def alarmDueSpec : ChangeSpec := { name := "alarmDue", fn := fun _ => fun
  | [d1, d2] => { results := [.lit (.bool true)], args := [d1, d2] }
  | _ => none }
def alarmDueRow : OpenClaim := { program := "ytlleifklioamlaa", sum := "8ccab6ca18b1475920bb03d5083e9e2c2b182955d8934db269e01601c762c91c", func := "watchman/watchmanlaw06.AlarmDue", spec := "alarmDue", unfollowed := true, recurses := true, apart := false }
def AlarmDueSaid : Prop := alarmDueRow.holds Try.pinned (OpenSpec.ofChange alarmDueSpec)

/-- ITS FALSE NEIGHBOUR: 'it returns false'. Refute it at one input. -/
def alarmDueWrong : ChangeSpec := { name := "alarmDue", fn := fun _ => fun
  | [d1, d2] => { results := [.lit (.bool false)], args := [d1, d2] }
  | _ => none }
def AlarmDueWrongFalsely : Prop := alarmDueRow.holds Try.pinned (OpenSpec.ofChange alarmDueWrong)

/-- 'watchmanlaw06.AlarmOpens': WHATEVER THE INPUT: true; the input reads as it did. -/
def alarmOpensSpec : ChangeSpec := { name := "alarmOpens", fn := fun _ => fun
  | [d1, d2, d3, d4] => { results := [.lit (.bool true)], args := [d1, d2, d3, d4] }
  | _ => none }
def alarmOpensRow : OpenClaim := { program := "ytlleifklioamlaa", sum := "8ccab6ca18b1475920bb03d5083e9e2c2b182955d8934db269e01601c762c91c", func := "watchman/watchmanlaw06.AlarmOpens", spec := "alarmOpens", unfollowed := true, recurses := true, apart := false }
def AlarmOpensSaid : Prop := alarmOpensRow.holds Try.pinned (OpenSpec.ofChange alarmOpensSpec)

/-- ITS FALSE NEIGHBOUR: 'it returns false'. Refute it at one input. -/
def alarmOpensWrong : ChangeSpec := { name := "alarmOpens", fn := fun _ => fun
  | [d1, d2, d3, d4] => { results := [.lit (.bool false)], args := [d1, d2, d3, d4] }
  | _ => none }
def AlarmOpensWrongFalsely : Prop := alarmOpensRow.holds Try.pinned (OpenSpec.ofChange alarmOpensWrong)

/-- 'watchmanlaw06.AlarmRight': WHATEVER THE INPUT: true; the input reads as it did. -/
def alarmRightSpec : ChangeSpec := { name := "alarmRight", fn := fun _ => fun
  | [d1, d2, d3, d4, d5, d6] => { results := [.lit (.bool true)], args := [d1, d2, d3, d4, d5, d6] }
  | _ => none }
def alarmRightRow : OpenClaim := { program := "ytlleifklioamlaa", sum := "8ccab6ca18b1475920bb03d5083e9e2c2b182955d8934db269e01601c762c91c", func := "watchman/watchmanlaw06.AlarmRight", spec := "alarmRight", unfollowed := true, recurses := true, apart := false }
def AlarmRightSaid : Prop := alarmRightRow.holds Try.pinned (OpenSpec.ofChange alarmRightSpec)

/-- ITS FALSE NEIGHBOUR: 'it returns false'. Refute it at one input. -/
def alarmRightWrong : ChangeSpec := { name := "alarmRight", fn := fun _ => fun
  | [d1, d2, d3, d4, d5, d6] => { results := [.lit (.bool false)], args := [d1, d2, d3, d4, d5, d6] }
  | _ => none }
def AlarmRightWrongFalsely : Prop := alarmRightRow.holds Try.pinned (OpenSpec.ofChange alarmRightWrong)

/-- 'watchmanlaw06.AlarmTwice': WHATEVER THE INPUT: true; the input reads as it did. -/
def alarmTwiceSpec : ChangeSpec := { name := "alarmTwice", fn := fun _ => fun
  | [d1, d2, d3, d4] => { results := [.lit (.bool true)], args := [d1, d2, d3, d4] }
  | _ => none }
def alarmTwiceRow : OpenClaim := { program := "ytlleifklioamlaa", sum := "8ccab6ca18b1475920bb03d5083e9e2c2b182955d8934db269e01601c762c91c", func := "watchman/watchmanlaw06.AlarmTwice", spec := "alarmTwice", unfollowed := true, recurses := true, apart := false }
def AlarmTwiceSaid : Prop := alarmTwiceRow.holds Try.pinned (OpenSpec.ofChange alarmTwiceSpec)

/-- ITS FALSE NEIGHBOUR: 'it returns false'. Refute it at one input. -/
def alarmTwiceWrong : ChangeSpec := { name := "alarmTwice", fn := fun _ => fun
  | [d1, d2, d3, d4] => { results := [.lit (.bool false)], args := [d1, d2, d3, d4] }
  | _ => none }
def AlarmTwiceWrongFalsely : Prop := alarmTwiceRow.holds Try.pinned (OpenSpec.ofChange alarmTwiceWrong)

/- THE SECOND FORM. 'bulk': how many values and letters a reading holds, each counted each time it is reached (what is shared counts as often as it is met; a slice's spare places count too). A statement '..UptoSaid' is the law's where the arguments, and the package variables that the reading takes, are together of bulk at most 1048576: NARROWER than '..Said'. Prove '..Said' where nothing that the law and all that it calls make is longer than what came in: it says more and counts as full. Else prove '..UptoSaid'. A law counts once. -/
mutual
def uptoBulk {H : Type} : DataW H → Nat
  | .lit (.string bytes) => bytes.length + 1
  | .lit _ => 1
  | .nil => 1
  | .ptr d => uptoBulk d + 1
  | .slice elems spare => uptoBulkAll elems + uptoBulkAll spare + 1
  | .agg parts => uptoBulkAll parts + 1
  | .iface _ d => uptoBulk d + 1
  | .map entries => uptoBulkEntries entries + 1
  | .held _ => 1
def uptoBulkAll {H : Type} : List (DataW H) → Nat
  | [] => 0
  | d :: r => uptoBulk d + uptoBulkAll r
def uptoBulkEntries {H : Type} : List (Lit × DataW H) → Nat
  | [] => 0
  | x :: r => uptoBulkEntry x + uptoBulkEntries r
def uptoBulkEntry {H : Type} : Lit × DataW H → Nat
  | (.string bytes, d) => bytes.length + uptoBulk d + 1
  | (_, d) => uptoBulk d + 1
 end
def uptoSmall : (H : Type) → List (DataW H) → Bool := fun _ ds => decide (uptoBulkAll ds ≤ 1048576)
def OpenSpec.upto (s : _root_.Go.ChangeSpec) : _root_.Go.OpenSpec := { _root_.Go.OpenSpec.ofChange s with cond := some uptoSmall }

/-- 'watchmanlaw06.AlarmDoes', WHERE WHAT IT READS IS OF BULK AT MOST 1048576: true; the input reads as it did. -/
def alarmDoesUptoRow : OpenClaim := { program := "ytlleifklioamlaa", sum := "8ccab6ca18b1475920bb03d5083e9e2c2b182955d8934db269e01601c762c91c", func := "watchman/watchmanlaw06.AlarmDoes", spec := "alarmDoes", unfollowed := true, recurses := true, apart := false, narrowed := true }
def AlarmDoesUptoSaid : Prop := alarmDoesUptoRow.holds Try.pinned (OpenSpec.upto alarmDoesSpec)

/-- 'watchmanlaw06.AlarmPass', WHERE WHAT IT READS IS OF BULK AT MOST 1048576: true; the input reads as it did. -/
def alarmPassUptoRow : OpenClaim := { program := "ytlleifklioamlaa", sum := "8ccab6ca18b1475920bb03d5083e9e2c2b182955d8934db269e01601c762c91c", func := "watchman/watchmanlaw06.AlarmPass", spec := "alarmPass", unfollowed := true, recurses := true, apart := false, narrowed := true }
def AlarmPassUptoSaid : Prop := alarmPassUptoRow.holds Try.pinned (OpenSpec.upto alarmPassSpec)

/-- 'watchmanlaw06.AlarmDue', WHERE WHAT IT READS IS OF BULK AT MOST 1048576: true; the input reads as it did. -/
def alarmDueUptoRow : OpenClaim := { program := "ytlleifklioamlaa", sum := "8ccab6ca18b1475920bb03d5083e9e2c2b182955d8934db269e01601c762c91c", func := "watchman/watchmanlaw06.AlarmDue", spec := "alarmDue", unfollowed := true, recurses := true, apart := false, narrowed := true }
def AlarmDueUptoSaid : Prop := alarmDueUptoRow.holds Try.pinned (OpenSpec.upto alarmDueSpec)

/-- 'watchmanlaw06.AlarmOpens', WHERE WHAT IT READS IS OF BULK AT MOST 1048576: true; the input reads as it did. -/
def alarmOpensUptoRow : OpenClaim := { program := "ytlleifklioamlaa", sum := "8ccab6ca18b1475920bb03d5083e9e2c2b182955d8934db269e01601c762c91c", func := "watchman/watchmanlaw06.AlarmOpens", spec := "alarmOpens", unfollowed := true, recurses := true, apart := false, narrowed := true }
def AlarmOpensUptoSaid : Prop := alarmOpensUptoRow.holds Try.pinned (OpenSpec.upto alarmOpensSpec)

/-- 'watchmanlaw06.AlarmRight', WHERE WHAT IT READS IS OF BULK AT MOST 1048576: true; the input reads as it did. -/
def alarmRightUptoRow : OpenClaim := { program := "ytlleifklioamlaa", sum := "8ccab6ca18b1475920bb03d5083e9e2c2b182955d8934db269e01601c762c91c", func := "watchman/watchmanlaw06.AlarmRight", spec := "alarmRight", unfollowed := true, recurses := true, apart := false, narrowed := true }
def AlarmRightUptoSaid : Prop := alarmRightUptoRow.holds Try.pinned (OpenSpec.upto alarmRightSpec)

/-- 'watchmanlaw06.AlarmTwice', WHERE WHAT IT READS IS OF BULK AT MOST 1048576: true; the input reads as it did. -/
def alarmTwiceUptoRow : OpenClaim := { program := "ytlleifklioamlaa", sum := "8ccab6ca18b1475920bb03d5083e9e2c2b182955d8934db269e01601c762c91c", func := "watchman/watchmanlaw06.AlarmTwice", spec := "alarmTwice", unfollowed := true, recurses := true, apart := false, narrowed := true }
def AlarmTwiceUptoSaid : Prop := alarmTwiceUptoRow.holds Try.pinned (OpenSpec.upto alarmTwiceSpec)

end Rows
end Go.Proofs.Ytlleifklioamlaa
