/-
  No cell of these rows narrows 'for every input' (looked for: loops, veiled, ifaces, maps, wideKeys, modest, calm, conditions, laid).
  DERIVED. THE GIVEN ROWS OF THIS SEAT. 5 by the template 'for every input the law returns true; each argument reads behind the call as it read before'; 0 by the template 'total and deterministic' (their statements: YtkhdpmbjjcmooaaTotals.lean).
  GIVEN WITH THE SEED: the statements are not yours to turn. If you find one false, say at which input.
  Laid BY PROGRAM, IN A SANDBOX (cutbox-rows.mjs): the forced cells as the released guide's own fill.sh prints them over the translation e9408a6ede084105… (all of the seat's roots in one cut). By AI agents, Wed Nov 11 2026. No macro, syntax, notation, axiom, sorry.
-/
import Derived.Test.YtkhdpmbjjcmooaaChecked
import GoSem.Claim
import GoSem.ClaimJoined
import GoSem.ClaimMapViews
import Derived.JoinedTies
import Derived.KernelRfl
namespace Go.Proofs.Ytkhdpmbjjcmooaa
/- THE CELL 'sum', in the pinned program and in every row, IS THE sha256 OF THE DUMP (.gsa) THAT YtkhdpmbjjcmooaaProg.lean LOADS. Nothing in Lean hashes anything: it is a label: what it is worth is what the hold of that sum in a sandbox is worth. -/
noncomputable def Try.pinned : Pinned := { name := "ytkhdpmbjjcmooaa", sum := "e9408a6ede084105cd70971981cbb747635e33b41fb1214bd6cedd6b551e7d9c", checked := Try.checked }
namespace Rows
def none {H : Type} : Left H := { results := [], args := [] }

/-- 'watchmanlaw18.SessionAgain': WHATEVER THE INPUT: true; the input reads as it did. -/
def sessionAgainSpec : ChangeSpec := { name := "sessionAgain", fn := fun _ => fun
  | [d1, d2, d3, d4, d5, d6, d7] => { results := [.lit (.bool true)], args := [d1, d2, d3, d4, d5, d6, d7] }
  | _ => none }
def sessionAgainRow : OpenClaim := { program := "ytkhdpmbjjcmooaa", sum := "e9408a6ede084105cd70971981cbb747635e33b41fb1214bd6cedd6b551e7d9c", func := "watchman/watchmanlaw18.SessionAgain", spec := "sessionAgain", unfollowed := true, recurses := true, apart := false }
def SessionAgainSaid : Prop := sessionAgainRow.holds Try.pinned (OpenSpec.ofChange sessionAgainSpec)

/-- ITS FALSE NEIGHBOUR: 'it returns false'. Refute it at one input. -/
def sessionAgainWrong : ChangeSpec := { name := "sessionAgain", fn := fun _ => fun
  | [d1, d2, d3, d4, d5, d6, d7] => { results := [.lit (.bool false)], args := [d1, d2, d3, d4, d5, d6, d7] }
  | _ => none }
def SessionAgainWrongFalsely : Prop := sessionAgainRow.holds Try.pinned (OpenSpec.ofChange sessionAgainWrong)

/-- 'watchmanlaw18.SessionOpens': WHATEVER THE INPUT: true; the input reads as it did. -/
def sessionOpensSpec : ChangeSpec := { name := "sessionOpens", fn := fun _ => fun
  | [d1, d2, d3, d4] => { results := [.lit (.bool true)], args := [d1, d2, d3, d4] }
  | _ => none }
def sessionOpensRow : OpenClaim := { program := "ytkhdpmbjjcmooaa", sum := "e9408a6ede084105cd70971981cbb747635e33b41fb1214bd6cedd6b551e7d9c", func := "watchman/watchmanlaw18.SessionOpens", spec := "sessionOpens", unfollowed := true, recurses := true, apart := false }
def SessionOpensSaid : Prop := sessionOpensRow.holds Try.pinned (OpenSpec.ofChange sessionOpensSpec)

/-- ITS FALSE NEIGHBOUR: 'it returns false'. Refute it at one input. -/
def sessionOpensWrong : ChangeSpec := { name := "sessionOpens", fn := fun _ => fun
  | [d1, d2, d3, d4] => { results := [.lit (.bool false)], args := [d1, d2, d3, d4] }
  | _ => none }
def SessionOpensWrongFalsely : Prop := sessionOpensRow.holds Try.pinned (OpenSpec.ofChange sessionOpensWrong)

/-- 'watchmanlaw18.SessionRuns': WHATEVER THE INPUT: true; the input reads as it did. -/
def sessionRunsSpec : ChangeSpec := { name := "sessionRuns", fn := fun _ => fun
  | [d1, d2, d3] => { results := [.lit (.bool true)], args := [d1, d2, d3] }
  | _ => none }
def sessionRunsRow : OpenClaim := { program := "ytkhdpmbjjcmooaa", sum := "e9408a6ede084105cd70971981cbb747635e33b41fb1214bd6cedd6b551e7d9c", func := "watchman/watchmanlaw18.SessionRuns", spec := "sessionRuns", unfollowed := true, recurses := true, apart := false }
def SessionRunsSaid : Prop := sessionRunsRow.holds Try.pinned (OpenSpec.ofChange sessionRunsSpec)

/-- ITS FALSE NEIGHBOUR: 'it returns false'. Refute it at one input. -/
def sessionRunsWrong : ChangeSpec := { name := "sessionRuns", fn := fun _ => fun
  | [d1, d2, d3] => { results := [.lit (.bool false)], args := [d1, d2, d3] }
  | _ => none }
def SessionRunsWrongFalsely : Prop := sessionRunsRow.holds Try.pinned (OpenSpec.ofChange sessionRunsWrong)

/-- 'watchmanlaw18.SessionDoes': WHATEVER THE INPUT: true; the input reads as it did. -/
def sessionDoesSpec : ChangeSpec := { name := "sessionDoes", fn := fun _ => fun
  | [d1, d2, d3, d4, d5, d6] => { results := [.lit (.bool true)], args := [d1, d2, d3, d4, d5, d6] }
  | _ => none }
def sessionDoesRow : OpenClaim := { program := "ytkhdpmbjjcmooaa", sum := "e9408a6ede084105cd70971981cbb747635e33b41fb1214bd6cedd6b551e7d9c", func := "watchman/watchmanlaw18.SessionDoes", spec := "sessionDoes", unfollowed := true, recurses := true, apart := false }
def SessionDoesSaid : Prop := sessionDoesRow.holds Try.pinned (OpenSpec.ofChange sessionDoesSpec)

/-- ITS FALSE NEIGHBOUR: 'it returns false'. Refute it at one input. -/
def sessionDoesWrong : ChangeSpec := { name := "sessionDoes", fn := fun _ => fun
  | [d1, d2, d3, d4, d5, d6] => { results := [.lit (.bool false)], args := [d1, d2, d3, d4, d5, d6] }
  | _ => none }
def SessionDoesWrongFalsely : Prop := sessionDoesRow.holds Try.pinned (OpenSpec.ofChange sessionDoesWrong)

/-- 'watchmanlaw18.SessionOldest': WHATEVER THE INPUT: true; the input reads as it did. -/
def sessionOldestSpec : ChangeSpec := { name := "sessionOldest", fn := fun _ => fun
  | [d1, d2] => { results := [.lit (.bool true)], args := [d1, d2] }
  | _ => none }
def sessionOldestRow : OpenClaim := { program := "ytkhdpmbjjcmooaa", sum := "e9408a6ede084105cd70971981cbb747635e33b41fb1214bd6cedd6b551e7d9c", func := "watchman/watchmanlaw18.SessionOldest", spec := "sessionOldest", unfollowed := true, recurses := true, apart := false }
def SessionOldestSaid : Prop := sessionOldestRow.holds Try.pinned (OpenSpec.ofChange sessionOldestSpec)

/-- ITS FALSE NEIGHBOUR: 'it returns false'. Refute it at one input. -/
def sessionOldestWrong : ChangeSpec := { name := "sessionOldest", fn := fun _ => fun
  | [d1, d2] => { results := [.lit (.bool false)], args := [d1, d2] }
  | _ => none }
def SessionOldestWrongFalsely : Prop := sessionOldestRow.holds Try.pinned (OpenSpec.ofChange sessionOldestWrong)

/- THE SECOND FORM. 'bulk': how many values and letters a reading holds, each counted each time it is reached (what is shared counts as often as it is met; a slice's spare places count too). A statement '..UptoSaid' is the law's where the arguments, and the package variables that the reading takes, are together of bulk at most 1048576: NARROWER than '..Said'. Prove '..Said' where nothing that the law and all that it calls make is longer than what came in: it says more and counts as full. Else prove '..UptoSaid'. A law counts once. -/
mutual
def uptoBulk {H : Type} : DataW H → Nat
  | .lit (.string bytes) => bytes.length + 1
  | .lit _ => 1
  | .nil => 1
  | .ptr d => uptoBulk d + 1
  | .slice elems spare => uptoBulkAll elems + uptoBulkAll spare + 1
  | .agg parts => uptoBulkAll parts + 1
  | .iface _ d => uptoBulk d + 1
  | .map entries => uptoBulkEntries entries + 1
  | .held _ => 1
def uptoBulkAll {H : Type} : List (DataW H) → Nat
  | [] => 0
  | d :: r => uptoBulk d + uptoBulkAll r
def uptoBulkEntries {H : Type} : List (Lit × DataW H) → Nat
  | [] => 0
  | x :: r => uptoBulkEntry x + uptoBulkEntries r
def uptoBulkEntry {H : Type} : Lit × DataW H → Nat
  | (.string bytes, d) => bytes.length + uptoBulk d + 1
  | (_, d) => uptoBulk d + 1
 end
def uptoSmall : (H : Type) → List (DataW H) → Bool := fun _ ds => decide (uptoBulkAll ds ≤ 1048576)
def OpenSpec.upto (s : _root_.Go.ChangeSpec) : _root_.Go.OpenSpec := { _root_.Go.OpenSpec.ofChange s with cond := some uptoSmall }

/-- 'watchmanlaw18.SessionAgain', WHERE WHAT IT READS IS OF BULK AT MOST 1048576: true; the input reads as it did. -/
def sessionAgainUptoRow : OpenClaim := { program := "ytkhdpmbjjcmooaa", sum := "e9408a6ede084105cd70971981cbb747635e33b41fb1214bd6cedd6b551e7d9c", func := "watchman/watchmanlaw18.SessionAgain", spec := "sessionAgain", unfollowed := true, recurses := true, apart := false, narrowed := true }
def SessionAgainUptoSaid : Prop := sessionAgainUptoRow.holds Try.pinned (OpenSpec.upto sessionAgainSpec)

/-- 'watchmanlaw18.SessionOpens', WHERE WHAT IT READS IS OF BULK AT MOST 1048576: true; the input reads as it did. -/
def sessionOpensUptoRow : OpenClaim := { program := "ytkhdpmbjjcmooaa", sum := "e9408a6ede084105cd70971981cbb747635e33b41fb1214bd6cedd6b551e7d9c", func := "watchman/watchmanlaw18.SessionOpens", spec := "sessionOpens", unfollowed := true, recurses := true, apart := false, narrowed := true }
def SessionOpensUptoSaid : Prop := sessionOpensUptoRow.holds Try.pinned (OpenSpec.upto sessionOpensSpec)

/-- 'watchmanlaw18.SessionRuns', WHERE WHAT IT READS IS OF BULK AT MOST 1048576: true; the input reads as it did. -/
def sessionRunsUptoRow : OpenClaim := { program := "ytkhdpmbjjcmooaa", sum := "e9408a6ede084105cd70971981cbb747635e33b41fb1214bd6cedd6b551e7d9c", func := "watchman/watchmanlaw18.SessionRuns", spec := "sessionRuns", unfollowed := true, recurses := true, apart := false, narrowed := true }
def SessionRunsUptoSaid : Prop := sessionRunsUptoRow.holds Try.pinned (OpenSpec.upto sessionRunsSpec)

/-- 'watchmanlaw18.SessionDoes', WHERE WHAT IT READS IS OF BULK AT MOST 1048576: true; the input reads as it did. -/
def sessionDoesUptoRow : OpenClaim := { program := "ytkhdpmbjjcmooaa", sum := "e9408a6ede084105cd70971981cbb747635e33b41fb1214bd6cedd6b551e7d9c", func := "watchman/watchmanlaw18.SessionDoes", spec := "sessionDoes", unfollowed := true, recurses := true, apart := false, narrowed := true }
def SessionDoesUptoSaid : Prop := sessionDoesUptoRow.holds Try.pinned (OpenSpec.upto sessionDoesSpec)

/-- 'watchmanlaw18.SessionOldest', WHERE WHAT IT READS IS OF BULK AT MOST 1048576: true; the input reads as it did. -/
def sessionOldestUptoRow : OpenClaim := { program := "ytkhdpmbjjcmooaa", sum := "e9408a6ede084105cd70971981cbb747635e33b41fb1214bd6cedd6b551e7d9c", func := "watchman/watchmanlaw18.SessionOldest", spec := "sessionOldest", unfollowed := true, recurses := true, apart := false, narrowed := true }
def SessionOldestUptoSaid : Prop := sessionOldestUptoRow.holds Try.pinned (OpenSpec.upto sessionOldestSpec)

end Rows
end Go.Proofs.Ytkhdpmbjjcmooaa
