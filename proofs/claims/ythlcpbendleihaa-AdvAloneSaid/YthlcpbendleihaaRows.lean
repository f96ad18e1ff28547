/-
  No cell of these rows narrows 'for every input' (looked for: loops, veiled, ifaces, maps, wideKeys, modest, calm, conditions, laid).
  DERIVED. THE GIVEN ROWS OF THIS SEAT. 3 by the template 'for every input the law returns true; each argument reads behind the call as it read before'; 0 by the template 'total and deterministic' (their statements: YthlcpbendleihaaTotals.lean).
  GIVEN WITH THE SEED: the statements are not yours to turn. If you find one false, say at which input.
  Laid BY PROGRAM, IN A SANDBOX (cutbox-rows.mjs): the forced cells as the released guide's own fill.sh prints them over the translation f9bef11729e7cb60… (all of the seat's roots in one cut). By AI agents, Wed Nov 11 2026. No macro, syntax, notation, axiom, sorry.
-/
import Derived.Test.YthlcpbendleihaaChecked
import GoSem.Claim
import GoSem.ClaimJoined
import GoSem.ClaimMapViews
import Derived.JoinedTies
import Derived.KernelRfl
namespace Go.Proofs.Ythlcpbendleihaa
/- THE CELL 'sum', in the pinned program and in every row, IS THE sha256 OF THE DUMP (.gsa) THAT YthlcpbendleihaaProg.lean LOADS. Nothing in Lean hashes anything: it is a label: what it is worth is what the hold of that sum in a sandbox is worth. -/
noncomputable def Try.pinned : Pinned := { name := "ythlcpbendleihaa", sum := "f9bef11729e7cb600aa43d1fc7058f0aa924679e00a66c1bfcc28a354075f5cd", checked := Try.checked }
namespace Rows
def none {H : Type} : Left H := { results := [], args := [] }

/-- 'chamberlainlaw21.AdvDoes': WHATEVER THE INPUT: true; the input reads as it did. -/
def advDoesSpec : ChangeSpec := { name := "advDoes", fn := fun _ => fun
  | [d1, d2] => { results := [.lit (.bool true)], args := [d1, d2] }
  | _ => none }
def advDoesRow : OpenClaim := { program := "ythlcpbendleihaa", sum := "f9bef11729e7cb600aa43d1fc7058f0aa924679e00a66c1bfcc28a354075f5cd", func := "chamberlain/chamberlainlaw21.AdvDoes", spec := "advDoes", unfollowed := true, recurses := true, apart := false }
def AdvDoesSaid : Prop := advDoesRow.holds Try.pinned (OpenSpec.ofChange advDoesSpec)

/-- ITS FALSE NEIGHBOUR: 'it returns false'. Refute it at one input. -/
def advDoesWrong : ChangeSpec := { name := "advDoes", fn := fun _ => fun
  | [d1, d2] => { results := [.lit (.bool false)], args := [d1, d2] }
  | _ => none }
def AdvDoesWrongFalsely : Prop := advDoesRow.holds Try.pinned (OpenSpec.ofChange advDoesWrong)

/-- 'chamberlainlaw21.AdvAlone': WHATEVER THE INPUT: true; the input reads as it did. -/
def advAloneSpec : ChangeSpec := { name := "advAlone", fn := fun _ => fun
  | [d1, d2] => { results := [.lit (.bool true)], args := [d1, d2] }
  | _ => none }
def advAloneRow : OpenClaim := { program := "ythlcpbendleihaa", sum := "f9bef11729e7cb600aa43d1fc7058f0aa924679e00a66c1bfcc28a354075f5cd", func := "chamberlain/chamberlainlaw21.AdvAlone", spec := "advAlone", unfollowed := true, recurses := true, apart := false }
def AdvAloneSaid : Prop := advAloneRow.holds Try.pinned (OpenSpec.ofChange advAloneSpec)

/-- ITS FALSE NEIGHBOUR: 'it returns false'. Refute it at one input. -/
def advAloneWrong : ChangeSpec := { name := "advAlone", fn := fun _ => fun
  | [d1, d2] => { results := [.lit (.bool false)], args := [d1, d2] }
  | _ => none }
def AdvAloneWrongFalsely : Prop := advAloneRow.holds Try.pinned (OpenSpec.ofChange advAloneWrong)

/-- 'chamberlainlaw21.AdvKeeps': WHATEVER THE INPUT: true; the input reads as it did. -/
def advKeepsSpec : ChangeSpec := { name := "advKeeps", fn := fun _ => fun
  | [d1, d2] => { results := [.lit (.bool true)], args := [d1, d2] }
  | _ => none }
def advKeepsRow : OpenClaim := { program := "ythlcpbendleihaa", sum := "f9bef11729e7cb600aa43d1fc7058f0aa924679e00a66c1bfcc28a354075f5cd", func := "chamberlain/chamberlainlaw21.AdvKeeps", spec := "advKeeps", unfollowed := true, recurses := true, apart := false }
def AdvKeepsSaid : Prop := advKeepsRow.holds Try.pinned (OpenSpec.ofChange advKeepsSpec)

/-- ITS FALSE NEIGHBOUR: 'it returns false'. Refute it at one input. -/
def advKeepsWrong : ChangeSpec := { name := "advKeeps", fn := fun _ => fun
  | [d1, d2] => { results := [.lit (.bool false)], args := [d1, d2] }
  | _ => none }
def AdvKeepsWrongFalsely : Prop := advKeepsRow.holds Try.pinned (OpenSpec.ofChange advKeepsWrong)

/- THE SECOND FORM. 'bulk': how many values and letters a reading holds, each counted each time it is reached (what is shared counts as often as it is met; a slice's spare places count too). A statement '..UptoSaid' is the law's where the arguments, and the package variables that the reading takes, are together of bulk at most 1048576: NARROWER than '..Said'. Prove '..Said' where nothing that the law and all that it calls make is longer than what came in: it says more and counts as full. Else prove '..UptoSaid'. A law counts once. -/
mutual
def uptoBulk {H : Type} : DataW H → Nat
  | .lit (.string bytes) => bytes.length + 1
  | .lit _ => 1
  | .nil => 1
  | .ptr d => uptoBulk d + 1
  | .slice elems spare => uptoBulkAll elems + uptoBulkAll spare + 1
  | .agg parts => uptoBulkAll parts + 1
  | .iface _ d => uptoBulk d + 1
  | .map entries => uptoBulkEntries entries + 1
  | .held _ => 1
def uptoBulkAll {H : Type} : List (DataW H) → Nat
  | [] => 0
  | d :: r => uptoBulk d + uptoBulkAll r
def uptoBulkEntries {H : Type} : List (Lit × DataW H) → Nat
  | [] => 0
  | x :: r => uptoBulkEntry x + uptoBulkEntries r
def uptoBulkEntry {H : Type} : Lit × DataW H → Nat
  | (.string bytes, d) => bytes.length + uptoBulk d + 1
  | (_, d) => uptoBulk d + 1
 end
def uptoSmall : (H : Type) → List (DataW H) → Bool := fun _ ds => decide (uptoBulkAll ds ≤ 1048576)
def OpenSpec.upto (s : _root_.Go.ChangeSpec) : _root_.Go.OpenSpec := { _root_.Go.OpenSpec.ofChange s with cond := some uptoSmall }

/-- 'chamberlainlaw21.AdvDoes', WHERE WHAT IT READS IS OF BULK AT MOST 1048576: true; the input reads as it did. -/
def advDoesUptoRow : OpenClaim := { program := "ythlcpbendleihaa", sum := "f9bef11729e7cb600aa43d1fc7058f0aa924679e00a66c1bfcc28a354075f5cd", func := "chamberlain/chamberlainlaw21.AdvDoes", spec := "advDoes", unfollowed := true, recurses := true, apart := false, narrowed := true }
def AdvDoesUptoSaid : Prop := advDoesUptoRow.holds Try.pinned (OpenSpec.upto advDoesSpec)

/-- 'chamberlainlaw21.AdvAlone', WHERE WHAT IT READS IS OF BULK AT MOST 1048576: true; the input reads as it did. -/
def advAloneUptoRow : OpenClaim := { program := "ythlcpbendleihaa", sum := "f9bef11729e7cb600aa43d1fc7058f0aa924679e00a66c1bfcc28a354075f5cd", func := "chamberlain/chamberlainlaw21.AdvAlone", spec := "advAlone", unfollowed := true, recurses := true, apart := false, narrowed := true }
def AdvAloneUptoSaid : Prop := advAloneUptoRow.holds Try.pinned (OpenSpec.upto advAloneSpec)

/-- 'chamberlainlaw21.AdvKeeps', WHERE WHAT IT READS IS OF BULK AT MOST 1048576: true; the input reads as it did. -/
def advKeepsUptoRow : OpenClaim := { program := "ythlcpbendleihaa", sum := "f9bef11729e7cb600aa43d1fc7058f0aa924679e00a66c1bfcc28a354075f5cd", func := "chamberlain/chamberlainlaw21.AdvKeeps", spec := "advKeeps", unfollowed := true, recurses := true, apart := false, narrowed := true }
def AdvKeepsUptoSaid : Prop := advKeepsUptoRow.holds Try.pinned (OpenSpec.upto advKeepsSpec)

end Rows
end Go.Proofs.Ythlcpbendleihaa
