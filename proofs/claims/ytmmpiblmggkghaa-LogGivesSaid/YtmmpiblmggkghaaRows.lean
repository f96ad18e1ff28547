/-
  No cell of these rows narrows 'for every input' (looked for: loops, veiled, ifaces, maps, wideKeys, modest, calm, conditions, laid).
  DERIVED. THE GIVEN ROWS OF THIS SEAT. 6 by the template 'for every input the law returns true; each argument reads behind the call as it read before'; 0 by the template 'total and deterministic' (their statements: YtmmpiblmggkghaaTotals.lean).
  GIVEN WITH THE SEED: the statements are not yours to turn. If you find one false, say at which input.
  Laid BY PROGRAM, IN A SANDBOX (cutbox-rows.mjs): the forced cells as the released guide's own fill.sh prints them over the translation 0c04f98d2dec070a… (all of the seat's roots in one cut). By AI agents, Wed Nov 11 2026. No macro, syntax, notation, axiom, sorry.
-/
import Derived.Test.YtmmpiblmggkghaaChecked
import GoSem.Claim
import GoSem.ClaimJoined
import GoSem.ClaimMapViews
import Derived.JoinedTies
import Derived.KernelRfl
namespace Go.Proofs.Ytmmpiblmggkghaa
/- THE CELL 'sum', in the pinned program and in every row, IS THE sha256 OF THE DUMP (.gsa) THAT YtmmpiblmggkghaaProg.lean LOADS. Nothing in Lean hashes anything: it is a label: what it is worth is what the hold of that sum in a sandbox is worth. -/
noncomputable def Try.pinned : Pinned := { name := "ytmmpiblmggkghaa", sum := "0c04f98d2dec070acf77da30a8d1ae043e9864d448be0b1ae57986fae6be181c", checked := Try.checked }
namespace Rows
def none {H : Type} : Left H := { results := [], args := [] }

/-- 'chamberlainlaw19.LogSelects': WHATEVER THE INPUT: true; the input reads as it did. -/
def logSelectsSpec : ChangeSpec := { name := "logSelects", fn := fun _ => fun
  | [d1, d2, d3] => { results := [.lit (.bool true)], args := [d1, d2, d3] }
  | _ => none }
def logSelectsRow : OpenClaim := { program := "ytmmpiblmggkghaa", sum := "0c04f98d2dec070acf77da30a8d1ae043e9864d448be0b1ae57986fae6be181c", func := "chamberlain/chamberlainlaw19.LogSelects", spec := "logSelects", unfollowed := true, recurses := true, plainKeys := false, apart := false }
def LogSelectsSaid : Prop := logSelectsRow.holds Try.pinned (OpenSpec.ofChange logSelectsSpec)

/-- ITS FALSE NEIGHBOUR: 'it returns false'. Refute it at one input. -/
def logSelectsWrong : ChangeSpec := { name := "logSelects", fn := fun _ => fun
  | [d1, d2, d3] => { results := [.lit (.bool false)], args := [d1, d2, d3] }
  | _ => none }
def LogSelectsWrongFalsely : Prop := logSelectsRow.holds Try.pinned (OpenSpec.ofChange logSelectsWrong)

/-- 'chamberlainlaw19.LogMatches': WHATEVER THE INPUT: true; the input reads as it did. -/
def logMatchesSpec : ChangeSpec := { name := "logMatches", fn := fun _ => fun
  | [d1, d2, d3] => { results := [.lit (.bool true)], args := [d1, d2, d3] }
  | _ => none }
def logMatchesRow : OpenClaim := { program := "ytmmpiblmggkghaa", sum := "0c04f98d2dec070acf77da30a8d1ae043e9864d448be0b1ae57986fae6be181c", func := "chamberlain/chamberlainlaw19.LogMatches", spec := "logMatches", unfollowed := true, recurses := true, plainKeys := false, apart := false }
def LogMatchesSaid : Prop := logMatchesRow.holds Try.pinned (OpenSpec.ofChange logMatchesSpec)

/-- ITS FALSE NEIGHBOUR: 'it returns false'. Refute it at one input. -/
def logMatchesWrong : ChangeSpec := { name := "logMatches", fn := fun _ => fun
  | [d1, d2, d3] => { results := [.lit (.bool false)], args := [d1, d2, d3] }
  | _ => none }
def LogMatchesWrongFalsely : Prop := logMatchesRow.holds Try.pinned (OpenSpec.ofChange logMatchesWrong)

/-- 'chamberlainlaw19.LogGives': WHATEVER THE INPUT: true; the input reads as it did. -/
def logGivesSpec : ChangeSpec := { name := "logGives", fn := fun _ => fun
  | [d1, d2, d3] => { results := [.lit (.bool true)], args := [d1, d2, d3] }
  | _ => none }
def logGivesRow : OpenClaim := { program := "ytmmpiblmggkghaa", sum := "0c04f98d2dec070acf77da30a8d1ae043e9864d448be0b1ae57986fae6be181c", func := "chamberlain/chamberlainlaw19.LogGives", spec := "logGives", unfollowed := true, recurses := true, plainKeys := false, apart := false }
def LogGivesSaid : Prop := logGivesRow.holds Try.pinned (OpenSpec.ofChange logGivesSpec)

/-- ITS FALSE NEIGHBOUR: 'it returns false'. Refute it at one input. -/
def logGivesWrong : ChangeSpec := { name := "logGives", fn := fun _ => fun
  | [d1, d2, d3] => { results := [.lit (.bool false)], args := [d1, d2, d3] }
  | _ => none }
def LogGivesWrongFalsely : Prop := logGivesRow.holds Try.pinned (OpenSpec.ofChange logGivesWrong)

/-- 'chamberlainlaw19.LogLess': WHATEVER THE INPUT: true; the input reads as it did. -/
def logLessSpec : ChangeSpec := { name := "logLess", fn := fun _ => fun
  | [d1, d2, d3, d4, d5] => { results := [.lit (.bool true)], args := [d1, d2, d3, d4, d5] }
  | _ => none }
def logLessRow : OpenClaim := { program := "ytmmpiblmggkghaa", sum := "0c04f98d2dec070acf77da30a8d1ae043e9864d448be0b1ae57986fae6be181c", func := "chamberlain/chamberlainlaw19.LogLess", spec := "logLess", unfollowed := true, recurses := true, plainKeys := false, apart := false }
def LogLessSaid : Prop := logLessRow.holds Try.pinned (OpenSpec.ofChange logLessSpec)

/-- ITS FALSE NEIGHBOUR: 'it returns false'. Refute it at one input. -/
def logLessWrong : ChangeSpec := { name := "logLess", fn := fun _ => fun
  | [d1, d2, d3, d4, d5] => { results := [.lit (.bool false)], args := [d1, d2, d3, d4, d5] }
  | _ => none }
def LogLessWrongFalsely : Prop := logLessRow.holds Try.pinned (OpenSpec.ofChange logLessWrong)

/-- 'chamberlainlaw19.LogKeeps': WHATEVER THE INPUT: true; the input reads as it did. -/
def logKeepsSpec : ChangeSpec := { name := "logKeeps", fn := fun _ => fun
  | [d1, d2, d3] => { results := [.lit (.bool true)], args := [d1, d2, d3] }
  | _ => none }
def logKeepsRow : OpenClaim := { program := "ytmmpiblmggkghaa", sum := "0c04f98d2dec070acf77da30a8d1ae043e9864d448be0b1ae57986fae6be181c", func := "chamberlain/chamberlainlaw19.LogKeeps", spec := "logKeeps", unfollowed := true, recurses := true, plainKeys := false, apart := false }
def LogKeepsSaid : Prop := logKeepsRow.holds Try.pinned (OpenSpec.ofChange logKeepsSpec)

/-- ITS FALSE NEIGHBOUR: 'it returns false'. Refute it at one input. -/
def logKeepsWrong : ChangeSpec := { name := "logKeeps", fn := fun _ => fun
  | [d1, d2, d3] => { results := [.lit (.bool false)], args := [d1, d2, d3] }
  | _ => none }
def LogKeepsWrongFalsely : Prop := logKeepsRow.holds Try.pinned (OpenSpec.ofChange logKeepsWrong)

/-- 'chamberlainlaw19.LogParts': WHATEVER THE INPUT: true; the input reads as it did. -/
def logPartsSpec : ChangeSpec := { name := "logParts", fn := fun _ => fun
  | [d1, d2, d3, d4] => { results := [.lit (.bool true)], args := [d1, d2, d3, d4] }
  | _ => none }
def logPartsRow : OpenClaim := { program := "ytmmpiblmggkghaa", sum := "0c04f98d2dec070acf77da30a8d1ae043e9864d448be0b1ae57986fae6be181c", func := "chamberlain/chamberlainlaw19.LogParts", spec := "logParts", unfollowed := true, recurses := true, plainKeys := false, apart := false }
def LogPartsSaid : Prop := logPartsRow.holds Try.pinned (OpenSpec.ofChange logPartsSpec)

/-- ITS FALSE NEIGHBOUR: 'it returns false'. Refute it at one input. -/
def logPartsWrong : ChangeSpec := { name := "logParts", fn := fun _ => fun
  | [d1, d2, d3, d4] => { results := [.lit (.bool false)], args := [d1, d2, d3, d4] }
  | _ => none }
def LogPartsWrongFalsely : Prop := logPartsRow.holds Try.pinned (OpenSpec.ofChange logPartsWrong)

/- THE SECOND FORM. 'bulk': how many values and letters a reading holds, each counted each time it is reached (what is shared counts as often as it is met; a slice's spare places count too). A statement '..UptoSaid' is the law's where the arguments, and the package variables that the reading takes, are together of bulk at most 1048576: NARROWER than '..Said'. Prove '..Said' where nothing that the law and all that it calls make is longer than what came in: it says more and counts as full. Else prove '..UptoSaid'. A law counts once. -/
mutual
def uptoBulk {H : Type} : DataW H → Nat
  | .lit (.string bytes) => bytes.length + 1
  | .lit _ => 1
  | .nil => 1
  | .ptr d => uptoBulk d + 1
  | .slice elems spare => uptoBulkAll elems + uptoBulkAll spare + 1
  | .agg parts => uptoBulkAll parts + 1
  | .iface _ d => uptoBulk d + 1
  | .map entries => uptoBulkEntries entries + 1
  | .held _ => 1
def uptoBulkAll {H : Type} : List (DataW H) → Nat
  | [] => 0
  | d :: r => uptoBulk d + uptoBulkAll r
def uptoBulkEntries {H : Type} : List (Lit × DataW H) → Nat
  | [] => 0
  | x :: r => uptoBulkEntry x + uptoBulkEntries r
def uptoBulkEntry {H : Type} : Lit × DataW H → Nat
  | (.string bytes, d) => bytes.length + uptoBulk d + 1
  | (_, d) => uptoBulk d + 1
 end
def uptoSmall : (H : Type) → List (DataW H) → Bool := fun _ ds => decide (uptoBulkAll ds ≤ 1048576)
def OpenSpec.upto (s : _root_.Go.ChangeSpec) : _root_.Go.OpenSpec := { _root_.Go.OpenSpec.ofChange s with cond := some uptoSmall }

/-- 'chamberlainlaw19.LogSelects', WHERE WHAT IT READS IS OF BULK AT MOST 1048576: true; the input reads as it did. -/
def logSelectsUptoRow : OpenClaim := { program := "ytmmpiblmggkghaa", sum := "0c04f98d2dec070acf77da30a8d1ae043e9864d448be0b1ae57986fae6be181c", func := "chamberlain/chamberlainlaw19.LogSelects", spec := "logSelects", unfollowed := true, recurses := true, plainKeys := false, apart := false, narrowed := true }
def LogSelectsUptoSaid : Prop := logSelectsUptoRow.holds Try.pinned (OpenSpec.upto logSelectsSpec)

/-- 'chamberlainlaw19.LogMatches', WHERE WHAT IT READS IS OF BULK AT MOST 1048576: true; the input reads as it did. -/
def logMatchesUptoRow : OpenClaim := { program := "ytmmpiblmggkghaa", sum := "0c04f98d2dec070acf77da30a8d1ae043e9864d448be0b1ae57986fae6be181c", func := "chamberlain/chamberlainlaw19.LogMatches", spec := "logMatches", unfollowed := true, recurses := true, plainKeys := false, apart := false, narrowed := true }
def LogMatchesUptoSaid : Prop := logMatchesUptoRow.holds Try.pinned (OpenSpec.upto logMatchesSpec)

/-- 'chamberlainlaw19.LogGives', WHERE WHAT IT READS IS OF BULK AT MOST 1048576: true; the input reads as it did. -/
def logGivesUptoRow : OpenClaim := { program := "ytmmpiblmggkghaa", sum := "0c04f98d2dec070acf77da30a8d1ae043e9864d448be0b1ae57986fae6be181c", func := "chamberlain/chamberlainlaw19.LogGives", spec := "logGives", unfollowed := true, recurses := true, plainKeys := false, apart := false, narrowed := true }
def LogGivesUptoSaid : Prop := logGivesUptoRow.holds Try.pinned (OpenSpec.upto logGivesSpec)

/-- 'chamberlainlaw19.LogLess', WHERE WHAT IT READS IS OF BULK AT MOST 1048576: true; the input reads as it did. -/
def logLessUptoRow : OpenClaim := { program := "ytmmpiblmggkghaa", sum := "0c04f98d2dec070acf77da30a8d1ae043e9864d448be0b1ae57986fae6be181c", func := "chamberlain/chamberlainlaw19.LogLess", spec := "logLess", unfollowed := true, recurses := true, plainKeys := false, apart := false, narrowed := true }
def LogLessUptoSaid : Prop := logLessUptoRow.holds Try.pinned (OpenSpec.upto logLessSpec)

/-- 'chamberlainlaw19.LogKeeps', WHERE WHAT IT READS IS OF BULK AT MOST 1048576: true; the input reads as it did. -/
def logKeepsUptoRow : OpenClaim := { program := "ytmmpiblmggkghaa", sum := "0c04f98d2dec070acf77da30a8d1ae043e9864d448be0b1ae57986fae6be181c", func := "chamberlain/chamberlainlaw19.LogKeeps", spec := "logKeeps", unfollowed := true, recurses := true, plainKeys := false, apart := false, narrowed := true }
def LogKeepsUptoSaid : Prop := logKeepsUptoRow.holds Try.pinned (OpenSpec.upto logKeepsSpec)

/-- 'chamberlainlaw19.LogParts', WHERE WHAT IT READS IS OF BULK AT MOST 1048576: true; the input reads as it did. -/
def logPartsUptoRow : OpenClaim := { program := "ytmmpiblmggkghaa", sum := "0c04f98d2dec070acf77da30a8d1ae043e9864d448be0b1ae57986fae6be181c", func := "chamberlain/chamberlainlaw19.LogParts", spec := "logParts", unfollowed := true, recurses := true, plainKeys := false, apart := false, narrowed := true }
def LogPartsUptoSaid : Prop := logPartsUptoRow.holds Try.pinned (OpenSpec.upto logPartsSpec)

end Rows
end Go.Proofs.Ytmmpiblmggkghaa
