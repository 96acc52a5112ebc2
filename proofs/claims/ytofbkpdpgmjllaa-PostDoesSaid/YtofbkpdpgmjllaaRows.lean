/-
  No cell of these rows narrows 'for every input' (looked for: loops, veiled, ifaces, maps, wideKeys, modest, calm, conditions, laid).
  DERIVED. THE GIVEN ROWS OF THIS SEAT. 5 by the template 'for every input the law returns true; each argument reads behind the call as it read before'; 0 by the template 'total and deterministic' (their statements: YtofbkpdpgmjllaaTotals.lean).
  GIVEN WITH THE SEED: the statements are not yours to turn. If you find one false, say at which input.
  Laid BY PROGRAM, IN A SANDBOX (cutbox-rows.mjs): the forced cells as the released guide's own fill.sh prints them over the translation 096db5b7e20ae18f… (all of the seat's roots in one cut). By AI agents, Wed Nov 11 2026. No macro, syntax, notation, axiom, sorry.
-/
import Derived.Test.YtofbkpdpgmjllaaChecked
import GoSem.Claim
import GoSem.ClaimJoined
import GoSem.ClaimMapViews
import Derived.JoinedTies
import Derived.KernelRfl
namespace Go.Proofs.Ytofbkpdpgmjllaa
/- THE CELL 'sum', in the pinned program and in every row, IS THE sha256 OF THE DUMP (.gsa) THAT YtofbkpdpgmjllaaProg.lean LOADS. Nothing in Lean hashes anything: it is a label: what it is worth is what the hold of that sum in a sandbox is worth. -/
noncomputable def Try.pinned : Pinned := { name := "ytofbkpdpgmjllaa", sum := "096db5b7e20ae18f1e749fb5300201e71deaef4ec008fa233959a37518a7b69f", checked := Try.checked }
namespace Rows
def none {H : Type} : Left H := { results := [], args := [] }

/-- 'watchmanlaw21.PostDoes': WHATEVER THE INPUT: true; the input reads as it did. -/
def postDoesSpec : ChangeSpec := { name := "postDoes", fn := fun _ => fun
  | [d1, d2, d3, d4, d5, d6] => { results := [.lit (.bool true)], args := [d1, d2, d3, d4, d5, d6] }
  | _ => none }
def postDoesRow : OpenClaim := { program := "ytofbkpdpgmjllaa", sum := "096db5b7e20ae18f1e749fb5300201e71deaef4ec008fa233959a37518a7b69f", func := "watchman/watchmanlaw21.PostDoes", spec := "postDoes", unfollowed := true, recurses := true, apart := false }
def PostDoesSaid : Prop := postDoesRow.holds Try.pinned (OpenSpec.ofChange postDoesSpec)

/-- ITS FALSE NEIGHBOUR: 'it returns false'. Refute it at one input. -/
def postDoesWrong : ChangeSpec := { name := "postDoes", fn := fun _ => fun
  | [d1, d2, d3, d4, d5, d6] => { results := [.lit (.bool false)], args := [d1, d2, d3, d4, d5, d6] }
  | _ => none }
def PostDoesWrongFalsely : Prop := postDoesRow.holds Try.pinned (OpenSpec.ofChange postDoesWrong)

/-- 'watchmanlaw21.PostKeeps': WHATEVER THE INPUT: true; the input reads as it did. -/
def postKeepsSpec : ChangeSpec := { name := "postKeeps", fn := fun _ => fun
  | [d1, d2, d3, d4] => { results := [.lit (.bool true)], args := [d1, d2, d3, d4] }
  | _ => none }
def postKeepsRow : OpenClaim := { program := "ytofbkpdpgmjllaa", sum := "096db5b7e20ae18f1e749fb5300201e71deaef4ec008fa233959a37518a7b69f", func := "watchman/watchmanlaw21.PostKeeps", spec := "postKeeps", unfollowed := true, recurses := true, apart := false }
def PostKeepsSaid : Prop := postKeepsRow.holds Try.pinned (OpenSpec.ofChange postKeepsSpec)

/-- ITS FALSE NEIGHBOUR: 'it returns false'. Refute it at one input. -/
def postKeepsWrong : ChangeSpec := { name := "postKeeps", fn := fun _ => fun
  | [d1, d2, d3, d4] => { results := [.lit (.bool false)], args := [d1, d2, d3, d4] }
  | _ => none }
def PostKeepsWrongFalsely : Prop := postKeepsRow.holds Try.pinned (OpenSpec.ofChange postKeepsWrong)

/-- 'watchmanlaw21.PostTakes': WHATEVER THE INPUT: true; the input reads as it did. -/
def postTakesSpec : ChangeSpec := { name := "postTakes", fn := fun _ => fun
  | [d1, d2] => { results := [.lit (.bool true)], args := [d1, d2] }
  | _ => none }
def postTakesRow : OpenClaim := { program := "ytofbkpdpgmjllaa", sum := "096db5b7e20ae18f1e749fb5300201e71deaef4ec008fa233959a37518a7b69f", func := "watchman/watchmanlaw21.PostTakes", spec := "postTakes", unfollowed := true, recurses := true, apart := false }
def PostTakesSaid : Prop := postTakesRow.holds Try.pinned (OpenSpec.ofChange postTakesSpec)

/-- ITS FALSE NEIGHBOUR: 'it returns false'. Refute it at one input. -/
def postTakesWrong : ChangeSpec := { name := "postTakes", fn := fun _ => fun
  | [d1, d2] => { results := [.lit (.bool false)], args := [d1, d2] }
  | _ => none }
def PostTakesWrongFalsely : Prop := postTakesRow.holds Try.pinned (OpenSpec.ofChange postTakesWrong)

/-- 'watchmanlaw21.PostOnly': WHATEVER THE INPUT: true; the input reads as it did. -/
def postOnlySpec : ChangeSpec := { name := "postOnly", fn := fun _ => fun
  | [d1, d2] => { results := [.lit (.bool true)], args := [d1, d2] }
  | _ => none }
def postOnlyRow : OpenClaim := { program := "ytofbkpdpgmjllaa", sum := "096db5b7e20ae18f1e749fb5300201e71deaef4ec008fa233959a37518a7b69f", func := "watchman/watchmanlaw21.PostOnly", spec := "postOnly", unfollowed := true, recurses := true, apart := false }
def PostOnlySaid : Prop := postOnlyRow.holds Try.pinned (OpenSpec.ofChange postOnlySpec)

/-- ITS FALSE NEIGHBOUR: 'it returns false'. Refute it at one input. -/
def postOnlyWrong : ChangeSpec := { name := "postOnly", fn := fun _ => fun
  | [d1, d2] => { results := [.lit (.bool false)], args := [d1, d2] }
  | _ => none }
def PostOnlyWrongFalsely : Prop := postOnlyRow.holds Try.pinned (OpenSpec.ofChange postOnlyWrong)

/-- 'watchmanlaw21.PostAgain': WHATEVER THE INPUT: true; the input reads as it did. -/
def postAgainSpec : ChangeSpec := { name := "postAgain", fn := fun _ => fun
  | [d1, d2] => { results := [.lit (.bool true)], args := [d1, d2] }
  | _ => none }
def postAgainRow : OpenClaim := { program := "ytofbkpdpgmjllaa", sum := "096db5b7e20ae18f1e749fb5300201e71deaef4ec008fa233959a37518a7b69f", func := "watchman/watchmanlaw21.PostAgain", spec := "postAgain", unfollowed := true, recurses := true, apart := false }
def PostAgainSaid : Prop := postAgainRow.holds Try.pinned (OpenSpec.ofChange postAgainSpec)

/-- ITS FALSE NEIGHBOUR: 'it returns false'. Refute it at one input. -/
def postAgainWrong : ChangeSpec := { name := "postAgain", fn := fun _ => fun
  | [d1, d2] => { results := [.lit (.bool false)], args := [d1, d2] }
  | _ => none }
def PostAgainWrongFalsely : Prop := postAgainRow.holds Try.pinned (OpenSpec.ofChange postAgainWrong)

/- THE SECOND FORM. 'bulk': how many values and letters a reading holds, each counted each time it is reached (what is shared counts as often as it is met; a slice's spare places count too). A statement '..UptoSaid' is the law's where the arguments, and the package variables that the reading takes, are together of bulk at most 1048576: NARROWER than '..Said'. Prove '..Said' where nothing that the law and all that it calls make is longer than what came in: it says more and counts as full. Else prove '..UptoSaid'. A law counts once. -/
mutual
def uptoBulk {H : Type} : DataW H → Nat
  | .lit (.string bytes) => bytes.length + 1
  | .lit _ => 1
  | .nil => 1
  | .ptr d => uptoBulk d + 1
  | .slice elems spare => uptoBulkAll elems + uptoBulkAll spare + 1
  | .agg parts => uptoBulkAll parts + 1
  | .iface _ d => uptoBulk d + 1
  | .map entries => uptoBulkEntries entries + 1
  | .held _ => 1
def uptoBulkAll {H : Type} : List (DataW H) → Nat
  | [] => 0
  | d :: r => uptoBulk d + uptoBulkAll r
def uptoBulkEntries {H : Type} : List (Lit × DataW H) → Nat
  | [] => 0
  | x :: r => uptoBulkEntry x + uptoBulkEntries r
def uptoBulkEntry {H : Type} : Lit × DataW H → Nat
  | (.string bytes, d) => bytes.length + uptoBulk d + 1
  | (_, d) => uptoBulk d + 1
 end
def uptoSmall : (H : Type) → List (DataW H) → Bool := fun _ ds => decide (uptoBulkAll ds ≤ 1048576)
def OpenSpec.upto (s : _root_.Go.ChangeSpec) : _root_.Go.OpenSpec := { _root_.Go.OpenSpec.ofChange s with cond := some uptoSmall }

/-- 'watchmanlaw21.PostDoes', WHERE WHAT IT READS IS OF BULK AT MOST 1048576: true; the input reads as it did. -/
def postDoesUptoRow : OpenClaim := { program := "ytofbkpdpgmjllaa", sum := "096db5b7e20ae18f1e749fb5300201e71deaef4ec008fa233959a37518a7b69f", func := "watchman/watchmanlaw21.PostDoes", spec := "postDoes", unfollowed := true, recurses := true, apart := false, narrowed := true }
def PostDoesUptoSaid : Prop := postDoesUptoRow.holds Try.pinned (OpenSpec.upto postDoesSpec)

/-- 'watchmanlaw21.PostKeeps', WHERE WHAT IT READS IS OF BULK AT MOST 1048576: true; the input reads as it did. -/
def postKeepsUptoRow : OpenClaim := { program := "ytofbkpdpgmjllaa", sum := "096db5b7e20ae18f1e749fb5300201e71deaef4ec008fa233959a37518a7b69f", func := "watchman/watchmanlaw21.PostKeeps", spec := "postKeeps", unfollowed := true, recurses := true, apart := false, narrowed := true }
def PostKeepsUptoSaid : Prop := postKeepsUptoRow.holds Try.pinned (OpenSpec.upto postKeepsSpec)

/-- 'watchmanlaw21.PostTakes', WHERE WHAT IT READS IS OF BULK AT MOST 1048576: true; the input reads as it did. -/
def postTakesUptoRow : OpenClaim := { program := "ytofbkpdpgmjllaa", sum := "096db5b7e20ae18f1e749fb5300201e71deaef4ec008fa233959a37518a7b69f", func := "watchman/watchmanlaw21.PostTakes", spec := "postTakes", unfollowed := true, recurses := true, apart := false, narrowed := true }
def PostTakesUptoSaid : Prop := postTakesUptoRow.holds Try.pinned (OpenSpec.upto postTakesSpec)

/-- 'watchmanlaw21.PostOnly', WHERE WHAT IT READS IS OF BULK AT MOST 1048576: true; the input reads as it did. -/
def postOnlyUptoRow : OpenClaim := { program := "ytofbkpdpgmjllaa", sum := "096db5b7e20ae18f1e749fb5300201e71deaef4ec008fa233959a37518a7b69f", func := "watchman/watchmanlaw21.PostOnly", spec := "postOnly", unfollowed := true, recurses := true, apart := false, narrowed := true }
def PostOnlyUptoSaid : Prop := postOnlyUptoRow.holds Try.pinned (OpenSpec.upto postOnlySpec)

/-- 'watchmanlaw21.PostAgain', WHERE WHAT IT READS IS OF BULK AT MOST 1048576: true; the input reads as it did. -/
def postAgainUptoRow : OpenClaim := { program := "ytofbkpdpgmjllaa", sum := "096db5b7e20ae18f1e749fb5300201e71deaef4ec008fa233959a37518a7b69f", func := "watchman/watchmanlaw21.PostAgain", spec := "postAgain", unfollowed := true, recurses := true, apart := false, narrowed := true }
def PostAgainUptoSaid : Prop := postAgainUptoRow.holds Try.pinned (OpenSpec.upto postAgainSpec)

end Rows
end Go.Proofs.Ytofbkpdpgmjllaa
