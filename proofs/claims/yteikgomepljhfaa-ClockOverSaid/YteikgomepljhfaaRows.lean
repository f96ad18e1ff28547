/-
  No cell of these rows narrows 'for every input' (looked for: loops, veiled, ifaces, maps, wideKeys, modest, calm, conditions, laid).
  DERIVED. THE GIVEN ROWS OF THIS SEAT. 4 by the template 'for every input the law returns true; each argument reads behind the call as it read before'; 0 by the template 'total and deterministic' (their statements: YteikgomepljhfaaTotals.lean).
  GIVEN WITH THE SEED: the statements are not yours to turn. If you find one false, say at which input.
  Laid BY PROGRAM, IN A SANDBOX (cutbox-rows.mjs): the forced cells as the released guide's own fill.sh prints them over the translation 7b1231825d4e6c26… (all of the seat's roots in one cut). By AI agents, Wed Nov 11 2026. No macro, syntax, notation, axiom, sorry.
-/
import Derived.Test.YteikgomepljhfaaChecked
import GoSem.Claim
import GoSem.ClaimJoined
import GoSem.ClaimMapViews
import Derived.JoinedTies
import Derived.KernelRfl
namespace Go.Proofs.Yteikgomepljhfaa
/- THE CELL 'sum', in the pinned program and in every row, IS THE sha256 OF THE DUMP (.gsa) THAT YteikgomepljhfaaProg.lean LOADS. Nothing in Lean hashes anything: it is a label: what it is worth is what the hold of that sum in a sandbox is worth. -/
noncomputable def Try.pinned : Pinned := { name := "yteikgomepljhfaa", sum := "7b1231825d4e6c269d7df516756d74bc8500a11b751f6ff86eda10f46f8a336f", checked := Try.checked }
namespace Rows
def none {H : Type} : Left H := { results := [], args := [] }

/-- 'chamberlainlaw05.ClockAsks': WHATEVER THE INPUT: true; the input reads as it did. -/
def clockAsksSpec : ChangeSpec := { name := "clockAsks", fn := fun _ => fun
  | [d1, d2, d3] => { results := [.lit (.bool true)], args := [d1, d2, d3] }
  | _ => none }
def clockAsksRow : OpenClaim := { program := "yteikgomepljhfaa", sum := "7b1231825d4e6c269d7df516756d74bc8500a11b751f6ff86eda10f46f8a336f", func := "chamberlain/chamberlainlaw05.ClockAsks", spec := "clockAsks", apart := false }
def ClockAsksSaid : Prop := clockAsksRow.holds Try.pinned (OpenSpec.ofChange clockAsksSpec)

/-- ITS FALSE NEIGHBOUR: 'it returns false'. Refute it at one input. -/
def clockAsksWrong : ChangeSpec := { name := "clockAsks", fn := fun _ => fun
  | [d1, d2, d3] => { results := [.lit (.bool false)], args := [d1, d2, d3] }
  | _ => none }
def ClockAsksWrongFalsely : Prop := clockAsksRow.holds Try.pinned (OpenSpec.ofChange clockAsksWrong)

/-- 'chamberlainlaw05.ClockFresh': WHATEVER THE INPUT: true; the input reads as it did. -/
def clockFreshSpec : ChangeSpec := { name := "clockFresh", fn := fun _ => fun
  | [d1, d2, d3, d4] => { results := [.lit (.bool true)], args := [d1, d2, d3, d4] }
  | _ => none }
def clockFreshRow : OpenClaim := { program := "yteikgomepljhfaa", sum := "7b1231825d4e6c269d7df516756d74bc8500a11b751f6ff86eda10f46f8a336f", func := "chamberlain/chamberlainlaw05.ClockFresh", spec := "clockFresh", apart := false }
def ClockFreshSaid : Prop := clockFreshRow.holds Try.pinned (OpenSpec.ofChange clockFreshSpec)

/-- ITS FALSE NEIGHBOUR: 'it returns false'. Refute it at one input. -/
def clockFreshWrong : ChangeSpec := { name := "clockFresh", fn := fun _ => fun
  | [d1, d2, d3, d4] => { results := [.lit (.bool false)], args := [d1, d2, d3, d4] }
  | _ => none }
def ClockFreshWrongFalsely : Prop := clockFreshRow.holds Try.pinned (OpenSpec.ofChange clockFreshWrong)

/-- 'chamberlainlaw05.ClockAdds': WHATEVER THE INPUT: true; the input reads as it did. -/
def clockAddsSpec : ChangeSpec := { name := "clockAdds", fn := fun _ => fun
  | [d1, d2, d3] => { results := [.lit (.bool true)], args := [d1, d2, d3] }
  | _ => none }
def clockAddsRow : OpenClaim := { program := "yteikgomepljhfaa", sum := "7b1231825d4e6c269d7df516756d74bc8500a11b751f6ff86eda10f46f8a336f", func := "chamberlain/chamberlainlaw05.ClockAdds", spec := "clockAdds", apart := false }
def ClockAddsSaid : Prop := clockAddsRow.holds Try.pinned (OpenSpec.ofChange clockAddsSpec)

/-- ITS FALSE NEIGHBOUR: 'it returns false'. Refute it at one input. -/
def clockAddsWrong : ChangeSpec := { name := "clockAdds", fn := fun _ => fun
  | [d1, d2, d3] => { results := [.lit (.bool false)], args := [d1, d2, d3] }
  | _ => none }
def ClockAddsWrongFalsely : Prop := clockAddsRow.holds Try.pinned (OpenSpec.ofChange clockAddsWrong)

/-- 'chamberlainlaw05.ClockOver': WHATEVER THE INPUT: true; the input reads as it did. -/
def clockOverSpec : ChangeSpec := { name := "clockOver", fn := fun _ => fun
  | [d1, d2, d3] => { results := [.lit (.bool true)], args := [d1, d2, d3] }
  | _ => none }
def clockOverRow : OpenClaim := { program := "yteikgomepljhfaa", sum := "7b1231825d4e6c269d7df516756d74bc8500a11b751f6ff86eda10f46f8a336f", func := "chamberlain/chamberlainlaw05.ClockOver", spec := "clockOver", apart := false }
def ClockOverSaid : Prop := clockOverRow.holds Try.pinned (OpenSpec.ofChange clockOverSpec)

/-- ITS FALSE NEIGHBOUR: 'it returns false'. Refute it at one input. -/
def clockOverWrong : ChangeSpec := { name := "clockOver", fn := fun _ => fun
  | [d1, d2, d3] => { results := [.lit (.bool false)], args := [d1, d2, d3] }
  | _ => none }
def ClockOverWrongFalsely : Prop := clockOverRow.holds Try.pinned (OpenSpec.ofChange clockOverWrong)

/- THE SECOND FORM. 'bulk': how many values and letters a reading holds, each counted each time it is reached (what is shared counts as often as it is met; a slice's spare places count too). A statement '..UptoSaid' is the law's where the arguments, and the package variables that the reading takes, are together of bulk at most 1048576: NARROWER than '..Said'. Prove '..Said' where nothing that the law and all that it calls make is longer than what came in: it says more and counts as full. Else prove '..UptoSaid'. A law counts once. -/
mutual
def uptoBulk {H : Type} : DataW H → Nat
  | .lit (.string bytes) => bytes.length + 1
  | .lit _ => 1
  | .nil => 1
  | .ptr d => uptoBulk d + 1
  | .slice elems spare => uptoBulkAll elems + uptoBulkAll spare + 1
  | .agg parts => uptoBulkAll parts + 1
  | .iface _ d => uptoBulk d + 1
  | .map entries => uptoBulkEntries entries + 1
  | .held _ => 1
def uptoBulkAll {H : Type} : List (DataW H) → Nat
  | [] => 0
  | d :: r => uptoBulk d + uptoBulkAll r
def uptoBulkEntries {H : Type} : List (Lit × DataW H) → Nat
  | [] => 0
  | x :: r => uptoBulkEntry x + uptoBulkEntries r
def uptoBulkEntry {H : Type} : Lit × DataW H → Nat
  | (.string bytes, d) => bytes.length + uptoBulk d + 1
  | (_, d) => uptoBulk d + 1
 end
def uptoSmall : (H : Type) → List (DataW H) → Bool := fun _ ds => decide (uptoBulkAll ds ≤ 1048576)
def OpenSpec.upto (s : _root_.Go.ChangeSpec) : _root_.Go.OpenSpec := { _root_.Go.OpenSpec.ofChange s with cond := some uptoSmall }

/-- 'chamberlainlaw05.ClockAsks', WHERE WHAT IT READS IS OF BULK AT MOST 1048576: true; the input reads as it did. -/
def clockAsksUptoRow : OpenClaim := { program := "yteikgomepljhfaa", sum := "7b1231825d4e6c269d7df516756d74bc8500a11b751f6ff86eda10f46f8a336f", func := "chamberlain/chamberlainlaw05.ClockAsks", spec := "clockAsks", apart := false, narrowed := true }
def ClockAsksUptoSaid : Prop := clockAsksUptoRow.holds Try.pinned (OpenSpec.upto clockAsksSpec)

/-- 'chamberlainlaw05.ClockFresh', WHERE WHAT IT READS IS OF BULK AT MOST 1048576: true; the input reads as it did. -/
def clockFreshUptoRow : OpenClaim := { program := "yteikgomepljhfaa", sum := "7b1231825d4e6c269d7df516756d74bc8500a11b751f6ff86eda10f46f8a336f", func := "chamberlain/chamberlainlaw05.ClockFresh", spec := "clockFresh", apart := false, narrowed := true }
def ClockFreshUptoSaid : Prop := clockFreshUptoRow.holds Try.pinned (OpenSpec.upto clockFreshSpec)

/-- 'chamberlainlaw05.ClockAdds', WHERE WHAT IT READS IS OF BULK AT MOST 1048576: true; the input reads as it did. -/
def clockAddsUptoRow : OpenClaim := { program := "yteikgomepljhfaa", sum := "7b1231825d4e6c269d7df516756d74bc8500a11b751f6ff86eda10f46f8a336f", func := "chamberlain/chamberlainlaw05.ClockAdds", spec := "clockAdds", apart := false, narrowed := true }
def ClockAddsUptoSaid : Prop := clockAddsUptoRow.holds Try.pinned (OpenSpec.upto clockAddsSpec)

/-- 'chamberlainlaw05.ClockOver', WHERE WHAT IT READS IS OF BULK AT MOST 1048576: true; the input reads as it did. -/
def clockOverUptoRow : OpenClaim := { program := "yteikgomepljhfaa", sum := "7b1231825d4e6c269d7df516756d74bc8500a11b751f6ff86eda10f46f8a336f", func := "chamberlain/chamberlainlaw05.ClockOver", spec := "clockOver", apart := false, narrowed := true }
def ClockOverUptoSaid : Prop := clockOverUptoRow.holds Try.pinned (OpenSpec.upto clockOverSpec)

end Rows
end Go.Proofs.Yteikgomepljhfaa
