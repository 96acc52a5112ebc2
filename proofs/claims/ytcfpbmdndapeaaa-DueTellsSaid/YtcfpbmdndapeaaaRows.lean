/-
  No cell of these rows narrows 'for every input' (looked for: loops, veiled, ifaces, maps, wideKeys, modest, calm, conditions, laid).
  DERIVED. THE GIVEN ROWS OF THIS SEAT. 10 by the template 'for every input the law returns true; each argument reads behind the call as it read before'; 0 by the template 'total and deterministic' (their statements: YtcfpbmdndapeaaaTotals.lean).
  GIVEN WITH THE SEED: the statements are not yours to turn. If you find one false, say at which input.
  Laid BY PROGRAM, IN A SANDBOX (cutbox-rows.mjs): the forced cells as the released guide's own fill.sh prints them over the translation ed93eb875da52fe8… (all of the seat's roots in one cut). By AI agents, Wed Nov 11 2026. No macro, syntax, notation, axiom, sorry.
-/
import Derived.Test.YtcfpbmdndapeaaaChecked
import GoSem.Claim
import GoSem.ClaimJoined
import GoSem.ClaimMapViews
import Derived.JoinedTies
import Derived.KernelRfl
namespace Go.Proofs.Ytcfpbmdndapeaaa
/- THE CELL 'sum', in the pinned program and in every row, IS THE sha256 OF THE DUMP (.gsa) THAT YtcfpbmdndapeaaaProg.lean LOADS. Nothing in Lean hashes anything: it is a label: what it is worth is what the hold of that sum in a sandbox is worth. -/
noncomputable def Try.pinned : Pinned := { name := "ytcfpbmdndapeaaa", sum := "ed93eb875da52fe8f18614eb2277980a83a99a9fb66ea1e54862883b105e041b", checked := Try.checked }
namespace Rows
def none {H : Type} : Left H := { results := [], args := [] }

/-- 'watchmanlaw08.BoardDoes': WHATEVER THE INPUT: true; the input reads as it did. -/
def boardDoesSpec : ChangeSpec := { name := "boardDoes", fn := fun _ => fun
  | [d1, d2, d3, d4, d5, d6] => { results := [.lit (.bool true)], args := [d1, d2, d3, d4, d5, d6] }
  | _ => none }
def boardDoesRow : OpenClaim := { program := "ytcfpbmdndapeaaa", sum := "ed93eb875da52fe8f18614eb2277980a83a99a9fb66ea1e54862883b105e041b", func := "watchman/watchmanlaw08.BoardDoes", spec := "boardDoes", unfollowed := true, recurses := true, apart := false }
def BoardDoesSaid : Prop := boardDoesRow.holds Try.pinned (OpenSpec.ofChange boardDoesSpec)

/-- ITS FALSE NEIGHBOUR: 'it returns false'. Refute it at one input. -/
def boardDoesWrong : ChangeSpec := { name := "boardDoes", fn := fun _ => fun
  | [d1, d2, d3, d4, d5, d6] => { results := [.lit (.bool false)], args := [d1, d2, d3, d4, d5, d6] }
  | _ => none }
def BoardDoesWrongFalsely : Prop := boardDoesRow.holds Try.pinned (OpenSpec.ofChange boardDoesWrong)

/-- 'watchmanlaw08.BoardPuts': WHATEVER THE INPUT: true; the input reads as it did. -/
def boardPutsSpec : ChangeSpec := { name := "boardPuts", fn := fun _ => fun
  | [d1, d2, d3] => { results := [.lit (.bool true)], args := [d1, d2, d3] }
  | _ => none }
def boardPutsRow : OpenClaim := { program := "ytcfpbmdndapeaaa", sum := "ed93eb875da52fe8f18614eb2277980a83a99a9fb66ea1e54862883b105e041b", func := "watchman/watchmanlaw08.BoardPuts", spec := "boardPuts", unfollowed := true, recurses := true, apart := false }
def BoardPutsSaid : Prop := boardPutsRow.holds Try.pinned (OpenSpec.ofChange boardPutsSpec)

/-- ITS FALSE NEIGHBOUR: 'it returns false'. Refute it at one input. -/
def boardPutsWrong : ChangeSpec := { name := "boardPuts", fn := fun _ => fun
  | [d1, d2, d3] => { results := [.lit (.bool false)], args := [d1, d2, d3] }
  | _ => none }
def BoardPutsWrongFalsely : Prop := boardPutsRow.holds Try.pinned (OpenSpec.ofChange boardPutsWrong)

/-- 'watchmanlaw08.BoardPass': WHATEVER THE INPUT: true; the input reads as it did. -/
def boardPassSpec : ChangeSpec := { name := "boardPass", fn := fun _ => fun
  | [d1, d2, d3] => { results := [.lit (.bool true)], args := [d1, d2, d3] }
  | _ => none }
def boardPassRow : OpenClaim := { program := "ytcfpbmdndapeaaa", sum := "ed93eb875da52fe8f18614eb2277980a83a99a9fb66ea1e54862883b105e041b", func := "watchman/watchmanlaw08.BoardPass", spec := "boardPass", unfollowed := true, recurses := true, apart := false }
def BoardPassSaid : Prop := boardPassRow.holds Try.pinned (OpenSpec.ofChange boardPassSpec)

/-- ITS FALSE NEIGHBOUR: 'it returns false'. Refute it at one input. -/
def boardPassWrong : ChangeSpec := { name := "boardPass", fn := fun _ => fun
  | [d1, d2, d3] => { results := [.lit (.bool false)], args := [d1, d2, d3] }
  | _ => none }
def BoardPassWrongFalsely : Prop := boardPassRow.holds Try.pinned (OpenSpec.ofChange boardPassWrong)

/-- 'watchmanlaw08.BoardBeds': WHATEVER THE INPUT: true; the input reads as it did. -/
def boardBedsSpec : ChangeSpec := { name := "boardBeds", fn := fun _ => fun
  | [d1, d2] => { results := [.lit (.bool true)], args := [d1, d2] }
  | _ => none }
def boardBedsRow : OpenClaim := { program := "ytcfpbmdndapeaaa", sum := "ed93eb875da52fe8f18614eb2277980a83a99a9fb66ea1e54862883b105e041b", func := "watchman/watchmanlaw08.BoardBeds", spec := "boardBeds", unfollowed := true, recurses := true, apart := false }
def BoardBedsSaid : Prop := boardBedsRow.holds Try.pinned (OpenSpec.ofChange boardBedsSpec)

/-- ITS FALSE NEIGHBOUR: 'it returns false'. Refute it at one input. -/
def boardBedsWrong : ChangeSpec := { name := "boardBeds", fn := fun _ => fun
  | [d1, d2] => { results := [.lit (.bool false)], args := [d1, d2] }
  | _ => none }
def BoardBedsWrongFalsely : Prop := boardBedsRow.holds Try.pinned (OpenSpec.ofChange boardBedsWrong)

/-- 'watchmanlaw08.BoardOrder': WHATEVER THE INPUT: true; the input reads as it did. -/
def boardOrderSpec : ChangeSpec := { name := "boardOrder", fn := fun _ => fun
  | [d1, d2, d3] => { results := [.lit (.bool true)], args := [d1, d2, d3] }
  | _ => none }
def boardOrderRow : OpenClaim := { program := "ytcfpbmdndapeaaa", sum := "ed93eb875da52fe8f18614eb2277980a83a99a9fb66ea1e54862883b105e041b", func := "watchman/watchmanlaw08.BoardOrder", spec := "boardOrder", unfollowed := true, recurses := true, apart := false }
def BoardOrderSaid : Prop := boardOrderRow.holds Try.pinned (OpenSpec.ofChange boardOrderSpec)

/-- ITS FALSE NEIGHBOUR: 'it returns false'. Refute it at one input. -/
def boardOrderWrong : ChangeSpec := { name := "boardOrder", fn := fun _ => fun
  | [d1, d2, d3] => { results := [.lit (.bool false)], args := [d1, d2, d3] }
  | _ => none }
def BoardOrderWrongFalsely : Prop := boardOrderRow.holds Try.pinned (OpenSpec.ofChange boardOrderWrong)

/-- 'watchmanlaw09.DueTells': WHATEVER THE INPUT: true; the input reads as it did. -/
def dueTellsSpec : ChangeSpec := { name := "dueTells", fn := fun _ => fun
  | [d1, d2, d3, d4] => { results := [.lit (.bool true)], args := [d1, d2, d3, d4] }
  | _ => none }
def dueTellsRow : OpenClaim := { program := "ytcfpbmdndapeaaa", sum := "ed93eb875da52fe8f18614eb2277980a83a99a9fb66ea1e54862883b105e041b", func := "watchman/watchmanlaw09.DueTells", spec := "dueTells", unfollowed := true, recurses := true, apart := false }
def DueTellsSaid : Prop := dueTellsRow.holds Try.pinned (OpenSpec.ofChange dueTellsSpec)

/-- ITS FALSE NEIGHBOUR: 'it returns false'. Refute it at one input. -/
def dueTellsWrong : ChangeSpec := { name := "dueTells", fn := fun _ => fun
  | [d1, d2, d3, d4] => { results := [.lit (.bool false)], args := [d1, d2, d3, d4] }
  | _ => none }
def DueTellsWrongFalsely : Prop := dueTellsRow.holds Try.pinned (OpenSpec.ofChange dueTellsWrong)

/-- 'watchmanlaw09.DueNext': WHATEVER THE INPUT: true; the input reads as it did. -/
def dueNextSpec : ChangeSpec := { name := "dueNext", fn := fun _ => fun
  | [d1, d2] => { results := [.lit (.bool true)], args := [d1, d2] }
  | _ => none }
def dueNextRow : OpenClaim := { program := "ytcfpbmdndapeaaa", sum := "ed93eb875da52fe8f18614eb2277980a83a99a9fb66ea1e54862883b105e041b", func := "watchman/watchmanlaw09.DueNext", spec := "dueNext", unfollowed := true, recurses := true, apart := false }
def DueNextSaid : Prop := dueNextRow.holds Try.pinned (OpenSpec.ofChange dueNextSpec)

/-- ITS FALSE NEIGHBOUR: 'it returns false'. Refute it at one input. -/
def dueNextWrong : ChangeSpec := { name := "dueNext", fn := fun _ => fun
  | [d1, d2] => { results := [.lit (.bool false)], args := [d1, d2] }
  | _ => none }
def DueNextWrongFalsely : Prop := dueNextRow.holds Try.pinned (OpenSpec.ofChange dueNextWrong)

/-- 'watchmanlaw09.DueOrder': WHATEVER THE INPUT: true; the input reads as it did. -/
def dueOrderSpec : ChangeSpec := { name := "dueOrder", fn := fun _ => fun
  | [d] => { results := [.lit (.bool true)], args := [d] }
  | _ => none }
def dueOrderRow : OpenClaim := { program := "ytcfpbmdndapeaaa", sum := "ed93eb875da52fe8f18614eb2277980a83a99a9fb66ea1e54862883b105e041b", func := "watchman/watchmanlaw09.DueOrder", spec := "dueOrder", unfollowed := true, recurses := true, apart := false }
def DueOrderSaid : Prop := dueOrderRow.holds Try.pinned (OpenSpec.ofChange dueOrderSpec)

/-- ITS FALSE NEIGHBOUR: 'it returns false'. Refute it at one input. -/
def dueOrderWrong : ChangeSpec := { name := "dueOrder", fn := fun _ => fun
  | [d] => { results := [.lit (.bool false)], args := [d] }
  | _ => none }
def DueOrderWrongFalsely : Prop := dueOrderRow.holds Try.pinned (OpenSpec.ofChange dueOrderWrong)

/-- 'watchmanlaw09.DuePass': WHATEVER THE INPUT: true; the input reads as it did. -/
def duePassSpec : ChangeSpec := { name := "duePass", fn := fun _ => fun
  | [d1, d2] => { results := [.lit (.bool true)], args := [d1, d2] }
  | _ => none }
def duePassRow : OpenClaim := { program := "ytcfpbmdndapeaaa", sum := "ed93eb875da52fe8f18614eb2277980a83a99a9fb66ea1e54862883b105e041b", func := "watchman/watchmanlaw09.DuePass", spec := "duePass", unfollowed := true, recurses := true, apart := false }
def DuePassSaid : Prop := duePassRow.holds Try.pinned (OpenSpec.ofChange duePassSpec)

/-- ITS FALSE NEIGHBOUR: 'it returns false'. Refute it at one input. -/
def duePassWrong : ChangeSpec := { name := "duePass", fn := fun _ => fun
  | [d1, d2] => { results := [.lit (.bool false)], args := [d1, d2] }
  | _ => none }
def DuePassWrongFalsely : Prop := duePassRow.holds Try.pinned (OpenSpec.ofChange duePassWrong)

/-- 'watchmanlaw09.DueParts': WHATEVER THE INPUT: true; the input reads as it did. -/
def duePartsSpec : ChangeSpec := { name := "dueParts", fn := fun _ => fun
  | [d1, d2, d3] => { results := [.lit (.bool true)], args := [d1, d2, d3] }
  | _ => none }
def duePartsRow : OpenClaim := { program := "ytcfpbmdndapeaaa", sum := "ed93eb875da52fe8f18614eb2277980a83a99a9fb66ea1e54862883b105e041b", func := "watchman/watchmanlaw09.DueParts", spec := "dueParts", unfollowed := true, recurses := true, apart := false }
def DuePartsSaid : Prop := duePartsRow.holds Try.pinned (OpenSpec.ofChange duePartsSpec)

/-- ITS FALSE NEIGHBOUR: 'it returns false'. Refute it at one input. -/
def duePartsWrong : ChangeSpec := { name := "dueParts", fn := fun _ => fun
  | [d1, d2, d3] => { results := [.lit (.bool false)], args := [d1, d2, d3] }
  | _ => none }
def DuePartsWrongFalsely : Prop := duePartsRow.holds Try.pinned (OpenSpec.ofChange duePartsWrong)

/- THE SECOND FORM. 'bulk': how many values and letters a reading holds, each counted each time it is reached (what is shared counts as often as it is met; a slice's spare places count too). A statement '..UptoSaid' is the law's where the arguments, and the package variables that the reading takes, are together of bulk at most 1048576: NARROWER than '..Said'. Prove '..Said' where nothing that the law and all that it calls make is longer than what came in: it says more and counts as full. Else prove '..UptoSaid'. A law counts once. -/
mutual
def uptoBulk {H : Type} : DataW H → Nat
  | .lit (.string bytes) => bytes.length + 1
  | .lit _ => 1
  | .nil => 1
  | .ptr d => uptoBulk d + 1
  | .slice elems spare => uptoBulkAll elems + uptoBulkAll spare + 1
  | .agg parts => uptoBulkAll parts + 1
  | .iface _ d => uptoBulk d + 1
  | .map entries => uptoBulkEntries entries + 1
  | .held _ => 1
def uptoBulkAll {H : Type} : List (DataW H) → Nat
  | [] => 0
  | d :: r => uptoBulk d + uptoBulkAll r
def uptoBulkEntries {H : Type} : List (Lit × DataW H) → Nat
  | [] => 0
  | x :: r => uptoBulkEntry x + uptoBulkEntries r
def uptoBulkEntry {H : Type} : Lit × DataW H → Nat
  | (.string bytes, d) => bytes.length + uptoBulk d + 1
  | (_, d) => uptoBulk d + 1
 end
def uptoSmall : (H : Type) → List (DataW H) → Bool := fun _ ds => decide (uptoBulkAll ds ≤ 1048576)
def OpenSpec.upto (s : _root_.Go.ChangeSpec) : _root_.Go.OpenSpec := { _root_.Go.OpenSpec.ofChange s with cond := some uptoSmall }

/-- 'watchmanlaw08.BoardDoes', WHERE WHAT IT READS IS OF BULK AT MOST 1048576: true; the input reads as it did. -/
def boardDoesUptoRow : OpenClaim := { program := "ytcfpbmdndapeaaa", sum := "ed93eb875da52fe8f18614eb2277980a83a99a9fb66ea1e54862883b105e041b", func := "watchman/watchmanlaw08.BoardDoes", spec := "boardDoes", unfollowed := true, recurses := true, apart := false, narrowed := true }
def BoardDoesUptoSaid : Prop := boardDoesUptoRow.holds Try.pinned (OpenSpec.upto boardDoesSpec)

/-- 'watchmanlaw08.BoardPuts', WHERE WHAT IT READS IS OF BULK AT MOST 1048576: true; the input reads as it did. -/
def boardPutsUptoRow : OpenClaim := { program := "ytcfpbmdndapeaaa", sum := "ed93eb875da52fe8f18614eb2277980a83a99a9fb66ea1e54862883b105e041b", func := "watchman/watchmanlaw08.BoardPuts", spec := "boardPuts", unfollowed := true, recurses := true, apart := false, narrowed := true }
def BoardPutsUptoSaid : Prop := boardPutsUptoRow.holds Try.pinned (OpenSpec.upto boardPutsSpec)

/-- 'watchmanlaw08.BoardPass', WHERE WHAT IT READS IS OF BULK AT MOST 1048576: true; the input reads as it did. -/
def boardPassUptoRow : OpenClaim := { program := "ytcfpbmdndapeaaa", sum := "ed93eb875da52fe8f18614eb2277980a83a99a9fb66ea1e54862883b105e041b", func := "watchman/watchmanlaw08.BoardPass", spec := "boardPass", unfollowed := true, recurses := true, apart := false, narrowed := true }
def BoardPassUptoSaid : Prop := boardPassUptoRow.holds Try.pinned (OpenSpec.upto boardPassSpec)

/-- 'watchmanlaw08.BoardBeds', WHERE WHAT IT READS IS OF BULK AT MOST 1048576: true; the input reads as it did. -/
def boardBedsUptoRow : OpenClaim := { program := "ytcfpbmdndapeaaa", sum := "ed93eb875da52fe8f18614eb2277980a83a99a9fb66ea1e54862883b105e041b", func := "watchman/watchmanlaw08.BoardBeds", spec := "boardBeds", unfollowed := true, recurses := true, apart := false, narrowed := true }
def BoardBedsUptoSaid : Prop := boardBedsUptoRow.holds Try.pinned (OpenSpec.upto boardBedsSpec)

/-- 'watchmanlaw08.BoardOrder', WHERE WHAT IT READS IS OF BULK AT MOST 1048576: true; the input reads as it did. -/
def boardOrderUptoRow : OpenClaim := { program := "ytcfpbmdndapeaaa", sum := "ed93eb875da52fe8f18614eb2277980a83a99a9fb66ea1e54862883b105e041b", func := "watchman/watchmanlaw08.BoardOrder", spec := "boardOrder", unfollowed := true, recurses := true, apart := false, narrowed := true }
def BoardOrderUptoSaid : Prop := boardOrderUptoRow.holds Try.pinned (OpenSpec.upto boardOrderSpec)

/-- 'watchmanlaw09.DueTells', WHERE WHAT IT READS IS OF BULK AT MOST 1048576: true; the input reads as it did. -/
def dueTellsUptoRow : OpenClaim := { program := "ytcfpbmdndapeaaa", sum := "ed93eb875da52fe8f18614eb2277980a83a99a9fb66ea1e54862883b105e041b", func := "watchman/watchmanlaw09.DueTells", spec := "dueTells", unfollowed := true, recurses := true, apart := false, narrowed := true }
def DueTellsUptoSaid : Prop := dueTellsUptoRow.holds Try.pinned (OpenSpec.upto dueTellsSpec)

/-- 'watchmanlaw09.DueNext', WHERE WHAT IT READS IS OF BULK AT MOST 1048576: true; the input reads as it did. -/
def dueNextUptoRow : OpenClaim := { program := "ytcfpbmdndapeaaa", sum := "ed93eb875da52fe8f18614eb2277980a83a99a9fb66ea1e54862883b105e041b", func := "watchman/watchmanlaw09.DueNext", spec := "dueNext", unfollowed := true, recurses := true, apart := false, narrowed := true }
def DueNextUptoSaid : Prop := dueNextUptoRow.holds Try.pinned (OpenSpec.upto dueNextSpec)

/-- 'watchmanlaw09.DueOrder', WHERE WHAT IT READS IS OF BULK AT MOST 1048576: true; the input reads as it did. -/
def dueOrderUptoRow : OpenClaim := { program := "ytcfpbmdndapeaaa", sum := "ed93eb875da52fe8f18614eb2277980a83a99a9fb66ea1e54862883b105e041b", func := "watchman/watchmanlaw09.DueOrder", spec := "dueOrder", unfollowed := true, recurses := true, apart := false, narrowed := true }
def DueOrderUptoSaid : Prop := dueOrderUptoRow.holds Try.pinned (OpenSpec.upto dueOrderSpec)

/-- 'watchmanlaw09.DuePass', WHERE WHAT IT READS IS OF BULK AT MOST 1048576: true; the input reads as it did. -/
def duePassUptoRow : OpenClaim := { program := "ytcfpbmdndapeaaa", sum := "ed93eb875da52fe8f18614eb2277980a83a99a9fb66ea1e54862883b105e041b", func := "watchman/watchmanlaw09.DuePass", spec := "duePass", unfollowed := true, recurses := true, apart := false, narrowed := true }
def DuePassUptoSaid : Prop := duePassUptoRow.holds Try.pinned (OpenSpec.upto duePassSpec)

/-- 'watchmanlaw09.DueParts', WHERE WHAT IT READS IS OF BULK AT MOST 1048576: true; the input reads as it did. -/
def duePartsUptoRow : OpenClaim := { program := "ytcfpbmdndapeaaa", sum := "ed93eb875da52fe8f18614eb2277980a83a99a9fb66ea1e54862883b105e041b", func := "watchman/watchmanlaw09.DueParts", spec := "dueParts", unfollowed := true, recurses := true, apart := false, narrowed := true }
def DuePartsUptoSaid : Prop := duePartsUptoRow.holds Try.pinned (OpenSpec.upto duePartsSpec)

end Rows
end Go.Proofs.Ytcfpbmdndapeaaa
