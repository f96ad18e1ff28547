/-
  No cell of these rows narrows 'for every input' (looked for: loops, veiled, ifaces, maps, wideKeys, modest, calm, conditions, laid).
  DERIVED. THE GIVEN ROWS OF THIS SEAT. 5 by the template 'for every input the law returns true; each argument reads behind the call as it read before'; 0 by the template 'total and deterministic' (their statements: YtpbmmompbknimaaTotals.lean).
  GIVEN WITH THE SEED: the statements are not yours to turn. If you find one false, say at which input.
  Laid BY PROGRAM, IN A SANDBOX (cutbox-rows.mjs): the forced cells as the released guide's own fill.sh prints them over the translation f627ed7d433cb51e… (all of the seat's roots in one cut). By AI agents, Wed Nov 11 2026. No macro, syntax, notation, axiom, sorry.
-/
import Derived.Test.YtpbmmompbknimaaChecked
import GoSem.Claim
import GoSem.ClaimJoined
import GoSem.ClaimMapViews
import Derived.JoinedTies
import Derived.KernelRfl
namespace Go.Proofs.Ytpbmmompbknimaa
/- THE CELL 'sum', in the pinned program and in every row, IS THE sha256 OF THE DUMP (.gsa) THAT YtpbmmompbknimaaProg.lean LOADS. Nothing in Lean hashes anything: it is a label: what it is worth is what the hold of that sum in a sandbox is worth. -/
noncomputable def Try.pinned : Pinned := { name := "ytpbmmompbknimaa", sum := "f627ed7d433cb51e4b7232ebb9088920a59840ca629816bd9c3fab00ec203439", checked := Try.checked }
namespace Rows
def none {H : Type} : Left H := { results := [], args := [] }

/-- 'chamberlainlaw11.PartPuts': WHATEVER THE INPUT: true; the input reads as it did. -/
def partPutsSpec : ChangeSpec := { name := "partPuts", fn := fun _ => fun
  | [d1, d2] => { results := [.lit (.bool true)], args := [d1, d2] }
  | _ => none }
def partPutsRow : OpenClaim := { program := "ytpbmmompbknimaa", sum := "f627ed7d433cb51e4b7232ebb9088920a59840ca629816bd9c3fab00ec203439", func := "chamberlain/chamberlainlaw11.PartPuts", spec := "partPuts", unfollowed := true, recurses := true, apart := false }
def PartPutsSaid : Prop := partPutsRow.holds Try.pinned (OpenSpec.ofChange partPutsSpec)

/-- ITS FALSE NEIGHBOUR: 'it returns false'. Refute it at one input. -/
def partPutsWrong : ChangeSpec := { name := "partPuts", fn := fun _ => fun
  | [d1, d2] => { results := [.lit (.bool false)], args := [d1, d2] }
  | _ => none }
def PartPutsWrongFalsely : Prop := partPutsRow.holds Try.pinned (OpenSpec.ofChange partPutsWrong)

/-- 'chamberlainlaw11.PartGets': WHATEVER THE INPUT: true; the input reads as it did. -/
def partGetsSpec : ChangeSpec := { name := "partGets", fn := fun _ => fun
  | [d1, d2] => { results := [.lit (.bool true)], args := [d1, d2] }
  | _ => none }
def partGetsRow : OpenClaim := { program := "ytpbmmompbknimaa", sum := "f627ed7d433cb51e4b7232ebb9088920a59840ca629816bd9c3fab00ec203439", func := "chamberlain/chamberlainlaw11.PartGets", spec := "partGets", unfollowed := true, recurses := true, apart := false }
def PartGetsSaid : Prop := partGetsRow.holds Try.pinned (OpenSpec.ofChange partGetsSpec)

/-- ITS FALSE NEIGHBOUR: 'it returns false'. Refute it at one input. -/
def partGetsWrong : ChangeSpec := { name := "partGets", fn := fun _ => fun
  | [d1, d2] => { results := [.lit (.bool false)], args := [d1, d2] }
  | _ => none }
def PartGetsWrongFalsely : Prop := partGetsRow.holds Try.pinned (OpenSpec.ofChange partGetsWrong)

/-- 'chamberlainlaw11.PartBack': WHATEVER THE INPUT: true; the input reads as it did. -/
def partBackSpec : ChangeSpec := { name := "partBack", fn := fun _ => fun
  | [d1, d2, d3, d4] => { results := [.lit (.bool true)], args := [d1, d2, d3, d4] }
  | _ => none }
def partBackRow : OpenClaim := { program := "ytpbmmompbknimaa", sum := "f627ed7d433cb51e4b7232ebb9088920a59840ca629816bd9c3fab00ec203439", func := "chamberlain/chamberlainlaw11.PartBack", spec := "partBack", unfollowed := true, recurses := true, apart := false }
def PartBackSaid : Prop := partBackRow.holds Try.pinned (OpenSpec.ofChange partBackSpec)

/-- ITS FALSE NEIGHBOUR: 'it returns false'. Refute it at one input. -/
def partBackWrong : ChangeSpec := { name := "partBack", fn := fun _ => fun
  | [d1, d2, d3, d4] => { results := [.lit (.bool false)], args := [d1, d2, d3, d4] }
  | _ => none }
def PartBackWrongFalsely : Prop := partBackRow.holds Try.pinned (OpenSpec.ofChange partBackWrong)

/-- 'chamberlainlaw11.PartKeeps': WHATEVER THE INPUT: true; the input reads as it did. -/
def partKeepsSpec : ChangeSpec := { name := "partKeeps", fn := fun _ => fun
  | [d1, d2] => { results := [.lit (.bool true)], args := [d1, d2] }
  | _ => none }
def partKeepsRow : OpenClaim := { program := "ytpbmmompbknimaa", sum := "f627ed7d433cb51e4b7232ebb9088920a59840ca629816bd9c3fab00ec203439", func := "chamberlain/chamberlainlaw11.PartKeeps", spec := "partKeeps", unfollowed := true, recurses := true, apart := false }
def PartKeepsSaid : Prop := partKeepsRow.holds Try.pinned (OpenSpec.ofChange partKeepsSpec)

/-- ITS FALSE NEIGHBOUR: 'it returns false'. Refute it at one input. -/
def partKeepsWrong : ChangeSpec := { name := "partKeeps", fn := fun _ => fun
  | [d1, d2] => { results := [.lit (.bool false)], args := [d1, d2] }
  | _ => none }
def PartKeepsWrongFalsely : Prop := partKeepsRow.holds Try.pinned (OpenSpec.ofChange partKeepsWrong)

/-- 'chamberlainlaw11.PartWords': WHATEVER THE INPUT: true; the input reads as it did. -/
def partWordsSpec : ChangeSpec := { name := "partWords", fn := fun _ => fun
  | [d1, d2, d3, d4, d5] => { results := [.lit (.bool true)], args := [d1, d2, d3, d4, d5] }
  | _ => none }
def partWordsRow : OpenClaim := { program := "ytpbmmompbknimaa", sum := "f627ed7d433cb51e4b7232ebb9088920a59840ca629816bd9c3fab00ec203439", func := "chamberlain/chamberlainlaw11.PartWords", spec := "partWords", unfollowed := true, recurses := true, apart := false }
def PartWordsSaid : Prop := partWordsRow.holds Try.pinned (OpenSpec.ofChange partWordsSpec)

/-- ITS FALSE NEIGHBOUR: 'it returns false'. Refute it at one input. -/
def partWordsWrong : ChangeSpec := { name := "partWords", fn := fun _ => fun
  | [d1, d2, d3, d4, d5] => { results := [.lit (.bool false)], args := [d1, d2, d3, d4, d5] }
  | _ => none }
def PartWordsWrongFalsely : Prop := partWordsRow.holds Try.pinned (OpenSpec.ofChange partWordsWrong)

/- THE SECOND FORM. 'bulk': how many values and letters a reading holds, each counted each time it is reached (what is shared counts as often as it is met; a slice's spare places count too). A statement '..UptoSaid' is the law's where the arguments, and the package variables that the reading takes, are together of bulk at most 1048576: NARROWER than '..Said'. Prove '..Said' where nothing that the law and all that it calls make is longer than what came in: it says more and counts as full. Else prove '..UptoSaid'. A law counts once. -/
mutual
def uptoBulk {H : Type} : DataW H → Nat
  | .lit (.string bytes) => bytes.length + 1
  | .lit _ => 1
  | .nil => 1
  | .ptr d => uptoBulk d + 1
  | .slice elems spare => uptoBulkAll elems + uptoBulkAll spare + 1
  | .agg parts => uptoBulkAll parts + 1
  | .iface _ d => uptoBulk d + 1
  | .map entries => uptoBulkEntries entries + 1
  | .held _ => 1
def uptoBulkAll {H : Type} : List (DataW H) → Nat
  | [] => 0
  | d :: r => uptoBulk d + uptoBulkAll r
def uptoBulkEntries {H : Type} : List (Lit × DataW H) → Nat
  | [] => 0
  | x :: r => uptoBulkEntry x + uptoBulkEntries r
def uptoBulkEntry {H : Type} : Lit × DataW H → Nat
  | (.string bytes, d) => bytes.length + uptoBulk d + 1
  | (_, d) => uptoBulk d + 1
 end
def uptoSmall : (H : Type) → List (DataW H) → Bool := fun _ ds => decide (uptoBulkAll ds ≤ 1048576)
def OpenSpec.upto (s : _root_.Go.ChangeSpec) : _root_.Go.OpenSpec := { _root_.Go.OpenSpec.ofChange s with cond := some uptoSmall }

/-- 'chamberlainlaw11.PartPuts', WHERE WHAT IT READS IS OF BULK AT MOST 1048576: true; the input reads as it did. -/
def partPutsUptoRow : OpenClaim := { program := "ytpbmmompbknimaa", sum := "f627ed7d433cb51e4b7232ebb9088920a59840ca629816bd9c3fab00ec203439", func := "chamberlain/chamberlainlaw11.PartPuts", spec := "partPuts", unfollowed := true, recurses := true, apart := false, narrowed := true }
def PartPutsUptoSaid : Prop := partPutsUptoRow.holds Try.pinned (OpenSpec.upto partPutsSpec)

/-- 'chamberlainlaw11.PartGets', WHERE WHAT IT READS IS OF BULK AT MOST 1048576: true; the input reads as it did. -/
def partGetsUptoRow : OpenClaim := { program := "ytpbmmompbknimaa", sum := "f627ed7d433cb51e4b7232ebb9088920a59840ca629816bd9c3fab00ec203439", func := "chamberlain/chamberlainlaw11.PartGets", spec := "partGets", unfollowed := true, recurses := true, apart := false, narrowed := true }
def PartGetsUptoSaid : Prop := partGetsUptoRow.holds Try.pinned (OpenSpec.upto partGetsSpec)

/-- 'chamberlainlaw11.PartBack', WHERE WHAT IT READS IS OF BULK AT MOST 1048576: true; the input reads as it did. -/
def partBackUptoRow : OpenClaim := { program := "ytpbmmompbknimaa", sum := "f627ed7d433cb51e4b7232ebb9088920a59840ca629816bd9c3fab00ec203439", func := "chamberlain/chamberlainlaw11.PartBack", spec := "partBack", unfollowed := true, recurses := true, apart := false, narrowed := true }
def PartBackUptoSaid : Prop := partBackUptoRow.holds Try.pinned (OpenSpec.upto partBackSpec)

/-- 'chamberlainlaw11.PartKeeps', WHERE WHAT IT READS IS OF BULK AT MOST 1048576: true; the input reads as it did. -/
def partKeepsUptoRow : OpenClaim := { program := "ytpbmmompbknimaa", sum := "f627ed7d433cb51e4b7232ebb9088920a59840ca629816bd9c3fab00ec203439", func := "chamberlain/chamberlainlaw11.PartKeeps", spec := "partKeeps", unfollowed := true, recurses := true, apart := false, narrowed := true }
def PartKeepsUptoSaid : Prop := partKeepsUptoRow.holds Try.pinned (OpenSpec.upto partKeepsSpec)

/-- 'chamberlainlaw11.PartWords', WHERE WHAT IT READS IS OF BULK AT MOST 1048576: true; the input reads as it did. -/
def partWordsUptoRow : OpenClaim := { program := "ytpbmmompbknimaa", sum := "f627ed7d433cb51e4b7232ebb9088920a59840ca629816bd9c3fab00ec203439", func := "chamberlain/chamberlainlaw11.PartWords", spec := "partWords", unfollowed := true, recurses := true, apart := false, narrowed := true }
def PartWordsUptoSaid : Prop := partWordsUptoRow.holds Try.pinned (OpenSpec.upto partWordsSpec)

end Rows
end Go.Proofs.Ytpbmmompbknimaa
