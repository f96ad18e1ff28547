/-
  No cell of these rows narrows 'for every input' (looked for: loops, veiled, ifaces, maps, wideKeys, modest, calm, conditions, laid).
  DERIVED. THE GIVEN ROWS OF THIS SEAT. 5 by the template 'for every input the law returns true; each argument reads behind the call as it read before'; 0 by the template 'total and deterministic' (their statements: YtlgbahgddpggfaaTotals.lean).
  GIVEN WITH THE SEED: the statements are not yours to turn. If you find one false, say at which input.
  Laid BY PROGRAM, IN A SANDBOX (cutbox-rows.mjs): the forced cells as the released guide's own fill.sh prints them over the translation 55f348cfe307e082… (all of the seat's roots in one cut). By AI agents, Wed Nov 11 2026. No macro, syntax, notation, axiom, sorry.
-/
import Derived.Test.YtlgbahgddpggfaaChecked
import GoSem.Claim
import GoSem.ClaimJoined
import GoSem.ClaimMapViews
import Derived.JoinedTies
import Derived.KernelRfl
namespace Go.Proofs.Ytlgbahgddpggfaa
/- THE CELL 'sum', in the pinned program and in every row, IS THE sha256 OF THE DUMP (.gsa) THAT YtlgbahgddpggfaaProg.lean LOADS. Nothing in Lean hashes anything: it is a label: what it is worth is what the hold of that sum in a sandbox is worth. -/
noncomputable def Try.pinned : Pinned := { name := "ytlgbahgddpggfaa", sum := "55f348cfe307e082dadd10f9d2bf18aafc0cd7b7e5092488be2ca51611825cbb", checked := Try.checked }
namespace Rows
def none {H : Type} : Left H := { results := [], args := [] }

/-- 'chamberlainlaw10.PeopleNews': WHATEVER THE INPUT: true; the input reads as it did. -/
def peopleNewsSpec : ChangeSpec := { name := "peopleNews", fn := fun _ => fun
  | [d1, d2, d3] => { results := [.lit (.bool true)], args := [d1, d2, d3] }
  | _ => none }
def peopleNewsRow : OpenClaim := { program := "ytlgbahgddpggfaa", sum := "55f348cfe307e082dadd10f9d2bf18aafc0cd7b7e5092488be2ca51611825cbb", func := "chamberlain/chamberlainlaw10.PeopleNews", spec := "peopleNews", unfollowed := true, recurses := true, apart := false }
def PeopleNewsSaid : Prop := peopleNewsRow.holds Try.pinned (OpenSpec.ofChange peopleNewsSpec)

/-- ITS FALSE NEIGHBOUR: 'it returns false'. Refute it at one input. -/
def peopleNewsWrong : ChangeSpec := { name := "peopleNews", fn := fun _ => fun
  | [d1, d2, d3] => { results := [.lit (.bool false)], args := [d1, d2, d3] }
  | _ => none }
def PeopleNewsWrongFalsely : Prop := peopleNewsRow.holds Try.pinned (OpenSpec.ofChange peopleNewsWrong)

/-- 'chamberlainlaw10.PeopleDoes': WHATEVER THE INPUT: true; the input reads as it did. -/
def peopleDoesSpec : ChangeSpec := { name := "peopleDoes", fn := fun _ => fun
  | [d1, d2, d3, d4] => { results := [.lit (.bool true)], args := [d1, d2, d3, d4] }
  | _ => none }
def peopleDoesRow : OpenClaim := { program := "ytlgbahgddpggfaa", sum := "55f348cfe307e082dadd10f9d2bf18aafc0cd7b7e5092488be2ca51611825cbb", func := "chamberlain/chamberlainlaw10.PeopleDoes", spec := "peopleDoes", unfollowed := true, recurses := true, apart := false }
def PeopleDoesSaid : Prop := peopleDoesRow.holds Try.pinned (OpenSpec.ofChange peopleDoesSpec)

/-- ITS FALSE NEIGHBOUR: 'it returns false'. Refute it at one input. -/
def peopleDoesWrong : ChangeSpec := { name := "peopleDoes", fn := fun _ => fun
  | [d1, d2, d3, d4] => { results := [.lit (.bool false)], args := [d1, d2, d3, d4] }
  | _ => none }
def PeopleDoesWrongFalsely : Prop := peopleDoesRow.holds Try.pinned (OpenSpec.ofChange peopleDoesWrong)

/-- 'chamberlainlaw10.PeopleKeys': WHATEVER THE INPUT: true; the input reads as it did. -/
def peopleKeysSpec : ChangeSpec := { name := "peopleKeys", fn := fun _ => fun
  | [d1, d2, d3, d4, d5] => { results := [.lit (.bool true)], args := [d1, d2, d3, d4, d5] }
  | _ => none }
def peopleKeysRow : OpenClaim := { program := "ytlgbahgddpggfaa", sum := "55f348cfe307e082dadd10f9d2bf18aafc0cd7b7e5092488be2ca51611825cbb", func := "chamberlain/chamberlainlaw10.PeopleKeys", spec := "peopleKeys", unfollowed := true, recurses := true, apart := false }
def PeopleKeysSaid : Prop := peopleKeysRow.holds Try.pinned (OpenSpec.ofChange peopleKeysSpec)

/-- ITS FALSE NEIGHBOUR: 'it returns false'. Refute it at one input. -/
def peopleKeysWrong : ChangeSpec := { name := "peopleKeys", fn := fun _ => fun
  | [d1, d2, d3, d4, d5] => { results := [.lit (.bool false)], args := [d1, d2, d3, d4, d5] }
  | _ => none }
def PeopleKeysWrongFalsely : Prop := peopleKeysRow.holds Try.pinned (OpenSpec.ofChange peopleKeysWrong)

/-- 'chamberlainlaw10.PeopleKeeps': WHATEVER THE INPUT: true; the input reads as it did. -/
def peopleKeepsSpec : ChangeSpec := { name := "peopleKeeps", fn := fun _ => fun
  | [d1, d2] => { results := [.lit (.bool true)], args := [d1, d2] }
  | _ => none }
def peopleKeepsRow : OpenClaim := { program := "ytlgbahgddpggfaa", sum := "55f348cfe307e082dadd10f9d2bf18aafc0cd7b7e5092488be2ca51611825cbb", func := "chamberlain/chamberlainlaw10.PeopleKeeps", spec := "peopleKeeps", unfollowed := true, recurses := true, apart := false }
def PeopleKeepsSaid : Prop := peopleKeepsRow.holds Try.pinned (OpenSpec.ofChange peopleKeepsSpec)

/-- ITS FALSE NEIGHBOUR: 'it returns false'. Refute it at one input. -/
def peopleKeepsWrong : ChangeSpec := { name := "peopleKeeps", fn := fun _ => fun
  | [d1, d2] => { results := [.lit (.bool false)], args := [d1, d2] }
  | _ => none }
def PeopleKeepsWrongFalsely : Prop := peopleKeepsRow.holds Try.pinned (OpenSpec.ofChange peopleKeepsWrong)

/-- 'chamberlainlaw10.PeopleTurned': WHATEVER THE INPUT: true; the input reads as it did. -/
def peopleTurnedSpec : ChangeSpec := { name := "peopleTurned", fn := fun _ => fun
  | [d1, d2, d3] => { results := [.lit (.bool true)], args := [d1, d2, d3] }
  | _ => none }
def peopleTurnedRow : OpenClaim := { program := "ytlgbahgddpggfaa", sum := "55f348cfe307e082dadd10f9d2bf18aafc0cd7b7e5092488be2ca51611825cbb", func := "chamberlain/chamberlainlaw10.PeopleTurned", spec := "peopleTurned", unfollowed := true, recurses := true, apart := false }
def PeopleTurnedSaid : Prop := peopleTurnedRow.holds Try.pinned (OpenSpec.ofChange peopleTurnedSpec)

/-- ITS FALSE NEIGHBOUR: 'it returns false'. Refute it at one input. -/
def peopleTurnedWrong : ChangeSpec := { name := "peopleTurned", fn := fun _ => fun
  | [d1, d2, d3] => { results := [.lit (.bool false)], args := [d1, d2, d3] }
  | _ => none }
def PeopleTurnedWrongFalsely : Prop := peopleTurnedRow.holds Try.pinned (OpenSpec.ofChange peopleTurnedWrong)

/- THE SECOND FORM. 'bulk': how many values and letters a reading holds, each counted each time it is reached (what is shared counts as often as it is met; a slice's spare places count too). A statement '..UptoSaid' is the law's where the arguments, and the package variables that the reading takes, are together of bulk at most 1048576: NARROWER than '..Said'. Prove '..Said' where nothing that the law and all that it calls make is longer than what came in: it says more and counts as full. Else prove '..UptoSaid'. A law counts once. -/
mutual
def uptoBulk {H : Type} : DataW H → Nat
  | .lit (.string bytes) => bytes.length + 1
  | .lit _ => 1
  | .nil => 1
  | .ptr d => uptoBulk d + 1
  | .slice elems spare => uptoBulkAll elems + uptoBulkAll spare + 1
  | .agg parts => uptoBulkAll parts + 1
  | .iface _ d => uptoBulk d + 1
  | .map entries => uptoBulkEntries entries + 1
  | .held _ => 1
def uptoBulkAll {H : Type} : List (DataW H) → Nat
  | [] => 0
  | d :: r => uptoBulk d + uptoBulkAll r
def uptoBulkEntries {H : Type} : List (Lit × DataW H) → Nat
  | [] => 0
  | x :: r => uptoBulkEntry x + uptoBulkEntries r
def uptoBulkEntry {H : Type} : Lit × DataW H → Nat
  | (.string bytes, d) => bytes.length + uptoBulk d + 1
  | (_, d) => uptoBulk d + 1
 end
def uptoSmall : (H : Type) → List (DataW H) → Bool := fun _ ds => decide (uptoBulkAll ds ≤ 1048576)
def OpenSpec.upto (s : _root_.Go.ChangeSpec) : _root_.Go.OpenSpec := { _root_.Go.OpenSpec.ofChange s with cond := some uptoSmall }

/-- 'chamberlainlaw10.PeopleNews', WHERE WHAT IT READS IS OF BULK AT MOST 1048576: true; the input reads as it did. -/
def peopleNewsUptoRow : OpenClaim := { program := "ytlgbahgddpggfaa", sum := "55f348cfe307e082dadd10f9d2bf18aafc0cd7b7e5092488be2ca51611825cbb", func := "chamberlain/chamberlainlaw10.PeopleNews", spec := "peopleNews", unfollowed := true, recurses := true, apart := false, narrowed := true }
def PeopleNewsUptoSaid : Prop := peopleNewsUptoRow.holds Try.pinned (OpenSpec.upto peopleNewsSpec)

/-- 'chamberlainlaw10.PeopleDoes', WHERE WHAT IT READS IS OF BULK AT MOST 1048576: true; the input reads as it did. -/
def peopleDoesUptoRow : OpenClaim := { program := "ytlgbahgddpggfaa", sum := "55f348cfe307e082dadd10f9d2bf18aafc0cd7b7e5092488be2ca51611825cbb", func := "chamberlain/chamberlainlaw10.PeopleDoes", spec := "peopleDoes", unfollowed := true, recurses := true, apart := false, narrowed := true }
def PeopleDoesUptoSaid : Prop := peopleDoesUptoRow.holds Try.pinned (OpenSpec.upto peopleDoesSpec)

/-- 'chamberlainlaw10.PeopleKeys', WHERE WHAT IT READS IS OF BULK AT MOST 1048576: true; the input reads as it did. -/
def peopleKeysUptoRow : OpenClaim := { program := "ytlgbahgddpggfaa", sum := "55f348cfe307e082dadd10f9d2bf18aafc0cd7b7e5092488be2ca51611825cbb", func := "chamberlain/chamberlainlaw10.PeopleKeys", spec := "peopleKeys", unfollowed := true, recurses := true, apart := false, narrowed := true }
def PeopleKeysUptoSaid : Prop := peopleKeysUptoRow.holds Try.pinned (OpenSpec.upto peopleKeysSpec)

/-- 'chamberlainlaw10.PeopleKeeps', WHERE WHAT IT READS IS OF BULK AT MOST 1048576: true; the input reads as it did. -/
def peopleKeepsUptoRow : OpenClaim := { program := "ytlgbahgddpggfaa", sum := "55f348cfe307e082dadd10f9d2bf18aafc0cd7b7e5092488be2ca51611825cbb", func := "chamberlain/chamberlainlaw10.PeopleKeeps", spec := "peopleKeeps", unfollowed := true, recurses := true, apart := false, narrowed := true }
def PeopleKeepsUptoSaid : Prop := peopleKeepsUptoRow.holds Try.pinned (OpenSpec.upto peopleKeepsSpec)

/-- 'chamberlainlaw10.PeopleTurned', WHERE WHAT IT READS IS OF BULK AT MOST 1048576: true; the input reads as it did. -/
def peopleTurnedUptoRow : OpenClaim := { program := "ytlgbahgddpggfaa", sum := "55f348cfe307e082dadd10f9d2bf18aafc0cd7b7e5092488be2ca51611825cbb", func := "chamberlain/chamberlainlaw10.PeopleTurned", spec := "peopleTurned", unfollowed := true, recurses := true, apart := false, narrowed := true }
def PeopleTurnedUptoSaid : Prop := peopleTurnedUptoRow.holds Try.pinned (OpenSpec.upto peopleTurnedSpec)

end Rows
end Go.Proofs.Ytlgbahgddpggfaa
