/-
  No cell of these rows narrows 'for every input' (looked for: loops, veiled, ifaces, maps, wideKeys, modest, calm, conditions, laid).
  DERIVED. THE GIVEN ROWS OF THIS SEAT. 4 by the template 'for every input the law returns true; each argument reads behind the call as it read before'; 0 by the template 'total and deterministic' (their statements: YtjhopebkflgcbaaTotals.lean).
  GIVEN WITH THE SEED: the statements are not yours to turn. If you find one false, say at which input.
  Laid BY PROGRAM, IN A SANDBOX (cutbox-rows.mjs): the forced cells as the released guide's own fill.sh prints them over the translation baabfa7ba9436a49… (all of the seat's roots in one cut). By AI agents, Wed Nov 11 2026. No macro, syntax, notation, axiom, sorry.
-/
import Derived.Test.YtjhopebkflgcbaaChecked
import GoSem.Claim
import GoSem.ClaimJoined
import GoSem.ClaimMapViews
import Derived.JoinedTies
import Derived.KernelRfl
namespace Go.Proofs.Ytjhopebkflgcbaa
/- THE CELL 'sum', in the pinned program and in every row, IS THE sha256 OF THE DUMP (.gsa) THAT YtjhopebkflgcbaaProg.lean LOADS. Nothing in Lean hashes anything: it is a label: what it is worth is what the hold of that sum in a sandbox is worth. -/
noncomputable def Try.pinned : Pinned := { name := "ytjhopebkflgcbaa", sum := "baabfa7ba9436a491b7646f410cb25594841c3671cecd4ab6545830acebecbf2", checked := Try.checked }
namespace Rows
def none {H : Type} : Left H := { results := [], args := [] }

/-- 'chamberlainlaw09.RunsDoes': WHATEVER THE INPUT: true; the input reads as it did. -/
def runsDoesSpec : ChangeSpec := { name := "runsDoes", fn := fun _ => fun
  | [d1, d2, d3, d4, d5, d6, d7] => { results := [.lit (.bool true)], args := [d1, d2, d3, d4, d5, d6, d7] }
  | _ => none }
def runsDoesRow : OpenClaim := { program := "ytjhopebkflgcbaa", sum := "baabfa7ba9436a491b7646f410cb25594841c3671cecd4ab6545830acebecbf2", func := "chamberlain/chamberlainlaw09.RunsDoes", spec := "runsDoes", unfollowed := true, recurses := true, apart := false }
def RunsDoesSaid : Prop := runsDoesRow.holds Try.pinned (OpenSpec.ofChange runsDoesSpec)

/-- ITS FALSE NEIGHBOUR: 'it returns false'. Refute it at one input. -/
def runsDoesWrong : ChangeSpec := { name := "runsDoes", fn := fun _ => fun
  | [d1, d2, d3, d4, d5, d6, d7] => { results := [.lit (.bool false)], args := [d1, d2, d3, d4, d5, d6, d7] }
  | _ => none }
def RunsDoesWrongFalsely : Prop := runsDoesRow.holds Try.pinned (OpenSpec.ofChange runsDoesWrong)

/-- 'chamberlainlaw09.RunsOrder': WHATEVER THE INPUT: true; the input reads as it did. -/
def runsOrderSpec : ChangeSpec := { name := "runsOrder", fn := fun _ => fun
  | [d1, d2, d3, d4] => { results := [.lit (.bool true)], args := [d1, d2, d3, d4] }
  | _ => none }
def runsOrderRow : OpenClaim := { program := "ytjhopebkflgcbaa", sum := "baabfa7ba9436a491b7646f410cb25594841c3671cecd4ab6545830acebecbf2", func := "chamberlain/chamberlainlaw09.RunsOrder", spec := "runsOrder", unfollowed := true, recurses := true, apart := false }
def RunsOrderSaid : Prop := runsOrderRow.holds Try.pinned (OpenSpec.ofChange runsOrderSpec)

/-- ITS FALSE NEIGHBOUR: 'it returns false'. Refute it at one input. -/
def runsOrderWrong : ChangeSpec := { name := "runsOrder", fn := fun _ => fun
  | [d1, d2, d3, d4] => { results := [.lit (.bool false)], args := [d1, d2, d3, d4] }
  | _ => none }
def RunsOrderWrongFalsely : Prop := runsOrderRow.holds Try.pinned (OpenSpec.ofChange runsOrderWrong)

/-- 'chamberlainlaw09.RunsKeeps': WHATEVER THE INPUT: true; the input reads as it did. -/
def runsKeepsSpec : ChangeSpec := { name := "runsKeeps", fn := fun _ => fun
  | [d1, d2, d3] => { results := [.lit (.bool true)], args := [d1, d2, d3] }
  | _ => none }
def runsKeepsRow : OpenClaim := { program := "ytjhopebkflgcbaa", sum := "baabfa7ba9436a491b7646f410cb25594841c3671cecd4ab6545830acebecbf2", func := "chamberlain/chamberlainlaw09.RunsKeeps", spec := "runsKeeps", unfollowed := true, recurses := true, apart := false }
def RunsKeepsSaid : Prop := runsKeepsRow.holds Try.pinned (OpenSpec.ofChange runsKeepsSpec)

/-- ITS FALSE NEIGHBOUR: 'it returns false'. Refute it at one input. -/
def runsKeepsWrong : ChangeSpec := { name := "runsKeeps", fn := fun _ => fun
  | [d1, d2, d3] => { results := [.lit (.bool false)], args := [d1, d2, d3] }
  | _ => none }
def RunsKeepsWrongFalsely : Prop := runsKeepsRow.holds Try.pinned (OpenSpec.ofChange runsKeepsWrong)

/-- 'chamberlainlaw09.RunsAdded': WHATEVER THE INPUT: true; the input reads as it did. -/
def runsAddedSpec : ChangeSpec := { name := "runsAdded", fn := fun _ => fun
  | [d1, d2, d3, d4, d5, d6] => { results := [.lit (.bool true)], args := [d1, d2, d3, d4, d5, d6] }
  | _ => none }
def runsAddedRow : OpenClaim := { program := "ytjhopebkflgcbaa", sum := "baabfa7ba9436a491b7646f410cb25594841c3671cecd4ab6545830acebecbf2", func := "chamberlain/chamberlainlaw09.RunsAdded", spec := "runsAdded", unfollowed := true, recurses := true, apart := false }
def RunsAddedSaid : Prop := runsAddedRow.holds Try.pinned (OpenSpec.ofChange runsAddedSpec)

/-- ITS FALSE NEIGHBOUR: 'it returns false'. Refute it at one input. -/
def runsAddedWrong : ChangeSpec := { name := "runsAdded", fn := fun _ => fun
  | [d1, d2, d3, d4, d5, d6] => { results := [.lit (.bool false)], args := [d1, d2, d3, d4, d5, d6] }
  | _ => none }
def RunsAddedWrongFalsely : Prop := runsAddedRow.holds Try.pinned (OpenSpec.ofChange runsAddedWrong)

/- THE SECOND FORM. 'bulk': how many values and letters a reading holds, each counted each time it is reached (what is shared counts as often as it is met; a slice's spare places count too). A statement '..UptoSaid' is the law's where the arguments, and the package variables that the reading takes, are together of bulk at most 1048576: NARROWER than '..Said'. Prove '..Said' where nothing that the law and all that it calls make is longer than what came in: it says more and counts as full. Else prove '..UptoSaid'. A law counts once. -/
mutual
def uptoBulk {H : Type} : DataW H → Nat
  | .lit (.string bytes) => bytes.length + 1
  | .lit _ => 1
  | .nil => 1
  | .ptr d => uptoBulk d + 1
  | .slice elems spare => uptoBulkAll elems + uptoBulkAll spare + 1
  | .agg parts => uptoBulkAll parts + 1
  | .iface _ d => uptoBulk d + 1
  | .map entries => uptoBulkEntries entries + 1
  | .held _ => 1
def uptoBulkAll {H : Type} : List (DataW H) → Nat
  | [] => 0
  | d :: r => uptoBulk d + uptoBulkAll r
def uptoBulkEntries {H : Type} : List (Lit × DataW H) → Nat
  | [] => 0
  | x :: r => uptoBulkEntry x + uptoBulkEntries r
def uptoBulkEntry {H : Type} : Lit × DataW H → Nat
  | (.string bytes, d) => bytes.length + uptoBulk d + 1
  | (_, d) => uptoBulk d + 1
 end
def uptoSmall : (H : Type) → List (DataW H) → Bool := fun _ ds => decide (uptoBulkAll ds ≤ 1048576)
def OpenSpec.upto (s : _root_.Go.ChangeSpec) : _root_.Go.OpenSpec := { _root_.Go.OpenSpec.ofChange s with cond := some uptoSmall }

/-- 'chamberlainlaw09.RunsDoes', WHERE WHAT IT READS IS OF BULK AT MOST 1048576: true; the input reads as it did. -/
def runsDoesUptoRow : OpenClaim := { program := "ytjhopebkflgcbaa", sum := "baabfa7ba9436a491b7646f410cb25594841c3671cecd4ab6545830acebecbf2", func := "chamberlain/chamberlainlaw09.RunsDoes", spec := "runsDoes", unfollowed := true, recurses := true, apart := false, narrowed := true }
def RunsDoesUptoSaid : Prop := runsDoesUptoRow.holds Try.pinned (OpenSpec.upto runsDoesSpec)

/-- 'chamberlainlaw09.RunsOrder', WHERE WHAT IT READS IS OF BULK AT MOST 1048576: true; the input reads as it did. -/
def runsOrderUptoRow : OpenClaim := { program := "ytjhopebkflgcbaa", sum := "baabfa7ba9436a491b7646f410cb25594841c3671cecd4ab6545830acebecbf2", func := "chamberlain/chamberlainlaw09.RunsOrder", spec := "runsOrder", unfollowed := true, recurses := true, apart := false, narrowed := true }
def RunsOrderUptoSaid : Prop := runsOrderUptoRow.holds Try.pinned (OpenSpec.upto runsOrderSpec)

/-- 'chamberlainlaw09.RunsKeeps', WHERE WHAT IT READS IS OF BULK AT MOST 1048576: true; the input reads as it did. -/
def runsKeepsUptoRow : OpenClaim := { program := "ytjhopebkflgcbaa", sum := "baabfa7ba9436a491b7646f410cb25594841c3671cecd4ab6545830acebecbf2", func := "chamberlain/chamberlainlaw09.RunsKeeps", spec := "runsKeeps", unfollowed := true, recurses := true, apart := false, narrowed := true }
def RunsKeepsUptoSaid : Prop := runsKeepsUptoRow.holds Try.pinned (OpenSpec.upto runsKeepsSpec)

/-- 'chamberlainlaw09.RunsAdded', WHERE WHAT IT READS IS OF BULK AT MOST 1048576: true; the input reads as it did. -/
def runsAddedUptoRow : OpenClaim := { program := "ytjhopebkflgcbaa", sum := "baabfa7ba9436a491b7646f410cb25594841c3671cecd4ab6545830acebecbf2", func := "chamberlain/chamberlainlaw09.RunsAdded", spec := "runsAdded", unfollowed := true, recurses := true, apart := false, narrowed := true }
def RunsAddedUptoSaid : Prop := runsAddedUptoRow.holds Try.pinned (OpenSpec.upto runsAddedSpec)

end Rows
end Go.Proofs.Ytjhopebkflgcbaa
