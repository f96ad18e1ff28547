/-
  No cell of these rows narrows 'for every input' (looked for: loops, veiled, ifaces, maps, wideKeys, modest, calm, conditions, laid).
  DERIVED. THE GIVEN ROWS OF THIS SEAT. 5 by the template 'for every input the law returns true; each argument reads behind the call as it read before'; 0 by the template 'total and deterministic' (their statements: YtifdlpnpbicahaaTotals.lean).
  GIVEN WITH THE SEED: the statements are not yours to turn. If you find one false, say at which input.
  Laid BY PROGRAM, IN A SANDBOX (cutbox-rows.mjs): the forced cells as the released guide's own fill.sh prints them over the translation 289f1bd88394d40f… (all of the seat's roots in one cut). By AI agents, Wed Nov 11 2026. No macro, syntax, notation, axiom, sorry.
-/
import Derived.Test.YtifdlpnpbicahaaChecked
import GoSem.Claim
import GoSem.ClaimJoined
import GoSem.ClaimMapViews
import Derived.JoinedTies
import Derived.KernelRfl
namespace Go.Proofs.Ytifdlpnpbicahaa
/- THE CELL 'sum', in the pinned program and in every row, IS THE sha256 OF THE DUMP (.gsa) THAT YtifdlpnpbicahaaProg.lean LOADS. Nothing in Lean hashes anything: it is a label: what it is worth is what the hold of that sum in a sandbox is worth. -/
noncomputable def Try.pinned : Pinned := { name := "ytifdlpnpbicahaa", sum := "289f1bd88394d40f2aa8476de493e0133016c47904cd5d1298ab0ef81991a039", checked := Try.checked }
namespace Rows
def none {H : Type} : Left H := { results := [], args := [] }

/-- 'chamberlainlaw07.BoxDoes': WHATEVER THE INPUT: true; the input reads as it did. -/
def boxDoesSpec : ChangeSpec := { name := "boxDoes", fn := fun _ => fun
  | [d1, d2, d3, d4, d5] => { results := [.lit (.bool true)], args := [d1, d2, d3, d4, d5] }
  | _ => none }
def boxDoesRow : OpenClaim := { program := "ytifdlpnpbicahaa", sum := "289f1bd88394d40f2aa8476de493e0133016c47904cd5d1298ab0ef81991a039", func := "chamberlain/chamberlainlaw07.BoxDoes", spec := "boxDoes", unfollowed := true, recurses := true, apart := false }
def BoxDoesSaid : Prop := boxDoesRow.holds Try.pinned (OpenSpec.ofChange boxDoesSpec)

/-- ITS FALSE NEIGHBOUR: 'it returns false'. Refute it at one input. -/
def boxDoesWrong : ChangeSpec := { name := "boxDoes", fn := fun _ => fun
  | [d1, d2, d3, d4, d5] => { results := [.lit (.bool false)], args := [d1, d2, d3, d4, d5] }
  | _ => none }
def BoxDoesWrongFalsely : Prop := boxDoesRow.holds Try.pinned (OpenSpec.ofChange boxDoesWrong)

/-- 'chamberlainlaw07.BoxIdeal': WHATEVER THE INPUT: true; the input reads as it did. -/
def boxIdealSpec : ChangeSpec := { name := "boxIdeal", fn := fun _ => fun
  | [d1, d2, d3, d4, d5, d6, d7, d8] => { results := [.lit (.bool true)], args := [d1, d2, d3, d4, d5, d6, d7, d8] }
  | _ => none }
def boxIdealRow : OpenClaim := { program := "ytifdlpnpbicahaa", sum := "289f1bd88394d40f2aa8476de493e0133016c47904cd5d1298ab0ef81991a039", func := "chamberlain/chamberlainlaw07.BoxIdeal", spec := "boxIdeal", unfollowed := true, recurses := true, apart := false }
def BoxIdealSaid : Prop := boxIdealRow.holds Try.pinned (OpenSpec.ofChange boxIdealSpec)

/-- ITS FALSE NEIGHBOUR: 'it returns false'. Refute it at one input. -/
def boxIdealWrong : ChangeSpec := { name := "boxIdeal", fn := fun _ => fun
  | [d1, d2, d3, d4, d5, d6, d7, d8] => { results := [.lit (.bool false)], args := [d1, d2, d3, d4, d5, d6, d7, d8] }
  | _ => none }
def BoxIdealWrongFalsely : Prop := boxIdealRow.holds Try.pinned (OpenSpec.ofChange boxIdealWrong)

/-- 'chamberlainlaw07.BoxMany': WHATEVER THE INPUT: true; the input reads as it did. -/
def boxManySpec : ChangeSpec := { name := "boxMany", fn := fun _ => fun
  | [d1, d2, d3, d4] => { results := [.lit (.bool true)], args := [d1, d2, d3, d4] }
  | _ => none }
def boxManyRow : OpenClaim := { program := "ytifdlpnpbicahaa", sum := "289f1bd88394d40f2aa8476de493e0133016c47904cd5d1298ab0ef81991a039", func := "chamberlain/chamberlainlaw07.BoxMany", spec := "boxMany", unfollowed := true, recurses := true, apart := false }
def BoxManySaid : Prop := boxManyRow.holds Try.pinned (OpenSpec.ofChange boxManySpec)

/-- ITS FALSE NEIGHBOUR: 'it returns false'. Refute it at one input. -/
def boxManyWrong : ChangeSpec := { name := "boxMany", fn := fun _ => fun
  | [d1, d2, d3, d4] => { results := [.lit (.bool false)], args := [d1, d2, d3, d4] }
  | _ => none }
def BoxManyWrongFalsely : Prop := boxManyRow.holds Try.pinned (OpenSpec.ofChange boxManyWrong)

/-- 'chamberlainlaw07.BoxKeeps': WHATEVER THE INPUT: true; the input reads as it did. -/
def boxKeepsSpec : ChangeSpec := { name := "boxKeeps", fn := fun _ => fun
  | [d1, d2, d3, d4, d5] => { results := [.lit (.bool true)], args := [d1, d2, d3, d4, d5] }
  | _ => none }
def boxKeepsRow : OpenClaim := { program := "ytifdlpnpbicahaa", sum := "289f1bd88394d40f2aa8476de493e0133016c47904cd5d1298ab0ef81991a039", func := "chamberlain/chamberlainlaw07.BoxKeeps", spec := "boxKeeps", unfollowed := true, recurses := true, apart := false }
def BoxKeepsSaid : Prop := boxKeepsRow.holds Try.pinned (OpenSpec.ofChange boxKeepsSpec)

/-- ITS FALSE NEIGHBOUR: 'it returns false'. Refute it at one input. -/
def boxKeepsWrong : ChangeSpec := { name := "boxKeeps", fn := fun _ => fun
  | [d1, d2, d3, d4, d5] => { results := [.lit (.bool false)], args := [d1, d2, d3, d4, d5] }
  | _ => none }
def BoxKeepsWrongFalsely : Prop := boxKeepsRow.holds Try.pinned (OpenSpec.ofChange boxKeepsWrong)

/-- 'chamberlainlaw07.BoxTurned': WHATEVER THE INPUT: true; the input reads as it did. -/
def boxTurnedSpec : ChangeSpec := { name := "boxTurned", fn := fun _ => fun
  | [d1, d2, d3, d4, d5, d6] => { results := [.lit (.bool true)], args := [d1, d2, d3, d4, d5, d6] }
  | _ => none }
def boxTurnedRow : OpenClaim := { program := "ytifdlpnpbicahaa", sum := "289f1bd88394d40f2aa8476de493e0133016c47904cd5d1298ab0ef81991a039", func := "chamberlain/chamberlainlaw07.BoxTurned", spec := "boxTurned", unfollowed := true, recurses := true, apart := false }
def BoxTurnedSaid : Prop := boxTurnedRow.holds Try.pinned (OpenSpec.ofChange boxTurnedSpec)

/-- ITS FALSE NEIGHBOUR: 'it returns false'. Refute it at one input. -/
def boxTurnedWrong : ChangeSpec := { name := "boxTurned", fn := fun _ => fun
  | [d1, d2, d3, d4, d5, d6] => { results := [.lit (.bool false)], args := [d1, d2, d3, d4, d5, d6] }
  | _ => none }
def BoxTurnedWrongFalsely : Prop := boxTurnedRow.holds Try.pinned (OpenSpec.ofChange boxTurnedWrong)

/- THE SECOND FORM. 'bulk': how many values and letters a reading holds, each counted each time it is reached (what is shared counts as often as it is met; a slice's spare places count too). A statement '..UptoSaid' is the law's where the arguments, and the package variables that the reading takes, are together of bulk at most 1048576: NARROWER than '..Said'. Prove '..Said' where nothing that the law and all that it calls make is longer than what came in: it says more and counts as full. Else prove '..UptoSaid'. A law counts once. -/
mutual
def uptoBulk {H : Type} : DataW H → Nat
  | .lit (.string bytes) => bytes.length + 1
  | .lit _ => 1
  | .nil => 1
  | .ptr d => uptoBulk d + 1
  | .slice elems spare => uptoBulkAll elems + uptoBulkAll spare + 1
  | .agg parts => uptoBulkAll parts + 1
  | .iface _ d => uptoBulk d + 1
  | .map entries => uptoBulkEntries entries + 1
  | .held _ => 1
def uptoBulkAll {H : Type} : List (DataW H) → Nat
  | [] => 0
  | d :: r => uptoBulk d + uptoBulkAll r
def uptoBulkEntries {H : Type} : List (Lit × DataW H) → Nat
  | [] => 0
  | x :: r => uptoBulkEntry x + uptoBulkEntries r
def uptoBulkEntry {H : Type} : Lit × DataW H → Nat
  | (.string bytes, d) => bytes.length + uptoBulk d + 1
  | (_, d) => uptoBulk d + 1
 end
def uptoSmall : (H : Type) → List (DataW H) → Bool := fun _ ds => decide (uptoBulkAll ds ≤ 1048576)
def OpenSpec.upto (s : _root_.Go.ChangeSpec) : _root_.Go.OpenSpec := { _root_.Go.OpenSpec.ofChange s with cond := some uptoSmall }

/-- 'chamberlainlaw07.BoxDoes', WHERE WHAT IT READS IS OF BULK AT MOST 1048576: true; the input reads as it did. -/
def boxDoesUptoRow : OpenClaim := { program := "ytifdlpnpbicahaa", sum := "289f1bd88394d40f2aa8476de493e0133016c47904cd5d1298ab0ef81991a039", func := "chamberlain/chamberlainlaw07.BoxDoes", spec := "boxDoes", unfollowed := true, recurses := true, apart := false, narrowed := true }
def BoxDoesUptoSaid : Prop := boxDoesUptoRow.holds Try.pinned (OpenSpec.upto boxDoesSpec)

/-- 'chamberlainlaw07.BoxIdeal', WHERE WHAT IT READS IS OF BULK AT MOST 1048576: true; the input reads as it did. -/
def boxIdealUptoRow : OpenClaim := { program := "ytifdlpnpbicahaa", sum := "289f1bd88394d40f2aa8476de493e0133016c47904cd5d1298ab0ef81991a039", func := "chamberlain/chamberlainlaw07.BoxIdeal", spec := "boxIdeal", unfollowed := true, recurses := true, apart := false, narrowed := true }
def BoxIdealUptoSaid : Prop := boxIdealUptoRow.holds Try.pinned (OpenSpec.upto boxIdealSpec)

/-- 'chamberlainlaw07.BoxMany', WHERE WHAT IT READS IS OF BULK AT MOST 1048576: true; the input reads as it did. -/
def boxManyUptoRow : OpenClaim := { program := "ytifdlpnpbicahaa", sum := "289f1bd88394d40f2aa8476de493e0133016c47904cd5d1298ab0ef81991a039", func := "chamberlain/chamberlainlaw07.BoxMany", spec := "boxMany", unfollowed := true, recurses := true, apart := false, narrowed := true }
def BoxManyUptoSaid : Prop := boxManyUptoRow.holds Try.pinned (OpenSpec.upto boxManySpec)

/-- 'chamberlainlaw07.BoxKeeps', WHERE WHAT IT READS IS OF BULK AT MOST 1048576: true; the input reads as it did. -/
def boxKeepsUptoRow : OpenClaim := { program := "ytifdlpnpbicahaa", sum := "289f1bd88394d40f2aa8476de493e0133016c47904cd5d1298ab0ef81991a039", func := "chamberlain/chamberlainlaw07.BoxKeeps", spec := "boxKeeps", unfollowed := true, recurses := true, apart := false, narrowed := true }
def BoxKeepsUptoSaid : Prop := boxKeepsUptoRow.holds Try.pinned (OpenSpec.upto boxKeepsSpec)

/-- 'chamberlainlaw07.BoxTurned', WHERE WHAT IT READS IS OF BULK AT MOST 1048576: true; the input reads as it did. -/
def boxTurnedUptoRow : OpenClaim := { program := "ytifdlpnpbicahaa", sum := "289f1bd88394d40f2aa8476de493e0133016c47904cd5d1298ab0ef81991a039", func := "chamberlain/chamberlainlaw07.BoxTurned", spec := "boxTurned", unfollowed := true, recurses := true, apart := false, narrowed := true }
def BoxTurnedUptoSaid : Prop := boxTurnedUptoRow.holds Try.pinned (OpenSpec.upto boxTurnedSpec)

end Rows
end Go.Proofs.Ytifdlpnpbicahaa
