/-
  No cell of these rows narrows 'for every input' (looked for: loops, veiled, ifaces, maps, wideKeys, modest, calm, conditions, laid).
  DERIVED. THE GIVEN ROWS OF THIS SEAT. 5 by the template 'for every input the law returns true; each argument reads behind the call as it read before'; 0 by the template 'total and deterministic' (their statements: YtdeanahhmciibaaTotals.lean).
  GIVEN WITH THE SEED: the statements are not yours to turn. If you find one false, say at which input.
  Laid BY PROGRAM, IN A SANDBOX (cutbox-rows.mjs): the forced cells as the released guide's own fill.sh prints them over the translation a46e0cadd156fbbf… (all of the seat's roots in one cut). By AI agents, Wed Nov 11 2026. No macro, syntax, notation, axiom, sorry.
-/
import Derived.Test.YtdeanahhmciibaaChecked
import GoSem.Claim
import GoSem.ClaimJoined
import GoSem.ClaimMapViews
import Derived.JoinedTies
import Derived.KernelRfl
namespace Go.Proofs.Ytdeanahhmciibaa
/- THE CELL 'sum', in the pinned program and in every row, IS THE sha256 OF THE DUMP (.gsa) THAT YtdeanahhmciibaaProg.lean LOADS. Nothing in Lean hashes anything: it is a label: what it is worth is what the hold of that sum in a sandbox is worth. -/
noncomputable def Try.pinned : Pinned := { name := "ytdeanahhmciibaa", sum := "a46e0cadd156fbbf4f477154f11abeeef7cda1f9d97d4fc0809e7f058cf2c300", checked := Try.checked }
namespace Rows
def none {H : Type} : Left H := { results := [], args := [] }

/-- 'chamberlainlaw01.WordDraws': WHATEVER THE INPUT: true; the input reads as it did. -/
def wordDrawsSpec : ChangeSpec := { name := "wordDraws", fn := fun _ => fun
  | [d] => { results := [.lit (.bool true)], args := [d] }
  | _ => none }
def wordDrawsRow : OpenClaim := { program := "ytdeanahhmciibaa", sum := "a46e0cadd156fbbf4f477154f11abeeef7cda1f9d97d4fc0809e7f058cf2c300", func := "chamberlain/chamberlainlaw01.WordDraws", spec := "wordDraws", apart := false }
def WordDrawsSaid : Prop := wordDrawsRow.holds Try.pinned (OpenSpec.ofChange wordDrawsSpec)

/-- ITS FALSE NEIGHBOUR: 'it returns false'. Refute it at one input. -/
def wordDrawsWrong : ChangeSpec := { name := "wordDraws", fn := fun _ => fun
  | [d] => { results := [.lit (.bool false)], args := [d] }
  | _ => none }
def WordDrawsWrongFalsely : Prop := wordDrawsRow.holds Try.pinned (OpenSpec.ofChange wordDrawsWrong)

/-- 'chamberlainlaw01.WordFinds': WHATEVER THE INPUT: true; the input reads as it did. -/
def wordFindsSpec : ChangeSpec := { name := "wordFinds", fn := fun _ => fun
  | [d1, d2, d3, d4] => { results := [.lit (.bool true)], args := [d1, d2, d3, d4] }
  | _ => none }
def wordFindsRow : OpenClaim := { program := "ytdeanahhmciibaa", sum := "a46e0cadd156fbbf4f477154f11abeeef7cda1f9d97d4fc0809e7f058cf2c300", func := "chamberlain/chamberlainlaw01.WordFinds", spec := "wordFinds", apart := false }
def WordFindsSaid : Prop := wordFindsRow.holds Try.pinned (OpenSpec.ofChange wordFindsSpec)

/-- ITS FALSE NEIGHBOUR: 'it returns false'. Refute it at one input. -/
def wordFindsWrong : ChangeSpec := { name := "wordFinds", fn := fun _ => fun
  | [d1, d2, d3, d4] => { results := [.lit (.bool false)], args := [d1, d2, d3, d4] }
  | _ => none }
def WordFindsWrongFalsely : Prop := wordFindsRow.holds Try.pinned (OpenSpec.ofChange wordFindsWrong)

/-- 'chamberlainlaw01.WordSub': WHATEVER THE INPUT: true; the input reads as it did. -/
def wordSubSpec : ChangeSpec := { name := "wordSub", fn := fun _ => fun
  | [d1, d2, d3] => { results := [.lit (.bool true)], args := [d1, d2, d3] }
  | _ => none }
def wordSubRow : OpenClaim := { program := "ytdeanahhmciibaa", sum := "a46e0cadd156fbbf4f477154f11abeeef7cda1f9d97d4fc0809e7f058cf2c300", func := "chamberlain/chamberlainlaw01.WordSub", spec := "wordSub", apart := false }
def WordSubSaid : Prop := wordSubRow.holds Try.pinned (OpenSpec.ofChange wordSubSpec)

/-- ITS FALSE NEIGHBOUR: 'it returns false'. Refute it at one input. -/
def wordSubWrong : ChangeSpec := { name := "wordSub", fn := fun _ => fun
  | [d1, d2, d3] => { results := [.lit (.bool false)], args := [d1, d2, d3] }
  | _ => none }
def WordSubWrongFalsely : Prop := wordSubRow.holds Try.pinned (OpenSpec.ofChange wordSubWrong)

/-- 'chamberlainlaw01.WordCuts': WHATEVER THE INPUT: true; the input reads as it did. -/
def wordCutsSpec : ChangeSpec := { name := "wordCuts", fn := fun _ => fun
  | [d1, d2, d3] => { results := [.lit (.bool true)], args := [d1, d2, d3] }
  | _ => none }
def wordCutsRow : OpenClaim := { program := "ytdeanahhmciibaa", sum := "a46e0cadd156fbbf4f477154f11abeeef7cda1f9d97d4fc0809e7f058cf2c300", func := "chamberlain/chamberlainlaw01.WordCuts", spec := "wordCuts", apart := false }
def WordCutsSaid : Prop := wordCutsRow.holds Try.pinned (OpenSpec.ofChange wordCutsSpec)

/-- ITS FALSE NEIGHBOUR: 'it returns false'. Refute it at one input. -/
def wordCutsWrong : ChangeSpec := { name := "wordCuts", fn := fun _ => fun
  | [d1, d2, d3] => { results := [.lit (.bool false)], args := [d1, d2, d3] }
  | _ => none }
def WordCutsWrongFalsely : Prop := wordCutsRow.holds Try.pinned (OpenSpec.ofChange wordCutsWrong)

/-- 'chamberlainlaw01.WordKeeps': WHATEVER THE INPUT: true; the input reads as it did. -/
def wordKeepsSpec : ChangeSpec := { name := "wordKeeps", fn := fun _ => fun
  | [d1, d2, d3] => { results := [.lit (.bool true)], args := [d1, d2, d3] }
  | _ => none }
def wordKeepsRow : OpenClaim := { program := "ytdeanahhmciibaa", sum := "a46e0cadd156fbbf4f477154f11abeeef7cda1f9d97d4fc0809e7f058cf2c300", func := "chamberlain/chamberlainlaw01.WordKeeps", spec := "wordKeeps", apart := false }
def WordKeepsSaid : Prop := wordKeepsRow.holds Try.pinned (OpenSpec.ofChange wordKeepsSpec)

/-- ITS FALSE NEIGHBOUR: 'it returns false'. Refute it at one input. -/
def wordKeepsWrong : ChangeSpec := { name := "wordKeeps", fn := fun _ => fun
  | [d1, d2, d3] => { results := [.lit (.bool false)], args := [d1, d2, d3] }
  | _ => none }
def WordKeepsWrongFalsely : Prop := wordKeepsRow.holds Try.pinned (OpenSpec.ofChange wordKeepsWrong)

/- THE SECOND FORM. 'bulk': how many values and letters a reading holds, each counted each time it is reached (what is shared counts as often as it is met; a slice's spare places count too). A statement '..UptoSaid' is the law's where the arguments, and the package variables that the reading takes, are together of bulk at most 1048576: NARROWER than '..Said'. Prove '..Said' where nothing that the law and all that it calls make is longer than what came in: it says more and counts as full. Else prove '..UptoSaid'. A law counts once. -/
mutual
def uptoBulk {H : Type} : DataW H → Nat
  | .lit (.string bytes) => bytes.length + 1
  | .lit _ => 1
  | .nil => 1
  | .ptr d => uptoBulk d + 1
  | .slice elems spare => uptoBulkAll elems + uptoBulkAll spare + 1
  | .agg parts => uptoBulkAll parts + 1
  | .iface _ d => uptoBulk d + 1
  | .map entries => uptoBulkEntries entries + 1
  | .held _ => 1
def uptoBulkAll {H : Type} : List (DataW H) → Nat
  | [] => 0
  | d :: r => uptoBulk d + uptoBulkAll r
def uptoBulkEntries {H : Type} : List (Lit × DataW H) → Nat
  | [] => 0
  | x :: r => uptoBulkEntry x + uptoBulkEntries r
def uptoBulkEntry {H : Type} : Lit × DataW H → Nat
  | (.string bytes, d) => bytes.length + uptoBulk d + 1
  | (_, d) => uptoBulk d + 1
 end
def uptoSmall : (H : Type) → List (DataW H) → Bool := fun _ ds => decide (uptoBulkAll ds ≤ 1048576)
def OpenSpec.upto (s : _root_.Go.ChangeSpec) : _root_.Go.OpenSpec := { _root_.Go.OpenSpec.ofChange s with cond := some uptoSmall }

/-- 'chamberlainlaw01.WordDraws', WHERE WHAT IT READS IS OF BULK AT MOST 1048576: true; the input reads as it did. -/
def wordDrawsUptoRow : OpenClaim := { program := "ytdeanahhmciibaa", sum := "a46e0cadd156fbbf4f477154f11abeeef7cda1f9d97d4fc0809e7f058cf2c300", func := "chamberlain/chamberlainlaw01.WordDraws", spec := "wordDraws", apart := false, narrowed := true }
def WordDrawsUptoSaid : Prop := wordDrawsUptoRow.holds Try.pinned (OpenSpec.upto wordDrawsSpec)

/-- 'chamberlainlaw01.WordFinds', WHERE WHAT IT READS IS OF BULK AT MOST 1048576: true; the input reads as it did. -/
def wordFindsUptoRow : OpenClaim := { program := "ytdeanahhmciibaa", sum := "a46e0cadd156fbbf4f477154f11abeeef7cda1f9d97d4fc0809e7f058cf2c300", func := "chamberlain/chamberlainlaw01.WordFinds", spec := "wordFinds", apart := false, narrowed := true }
def WordFindsUptoSaid : Prop := wordFindsUptoRow.holds Try.pinned (OpenSpec.upto wordFindsSpec)

/-- 'chamberlainlaw01.WordSub', WHERE WHAT IT READS IS OF BULK AT MOST 1048576: true; the input reads as it did. -/
def wordSubUptoRow : OpenClaim := { program := "ytdeanahhmciibaa", sum := "a46e0cadd156fbbf4f477154f11abeeef7cda1f9d97d4fc0809e7f058cf2c300", func := "chamberlain/chamberlainlaw01.WordSub", spec := "wordSub", apart := false, narrowed := true }
def WordSubUptoSaid : Prop := wordSubUptoRow.holds Try.pinned (OpenSpec.upto wordSubSpec)

/-- 'chamberlainlaw01.WordCuts', WHERE WHAT IT READS IS OF BULK AT MOST 1048576: true; the input reads as it did. -/
def wordCutsUptoRow : OpenClaim := { program := "ytdeanahhmciibaa", sum := "a46e0cadd156fbbf4f477154f11abeeef7cda1f9d97d4fc0809e7f058cf2c300", func := "chamberlain/chamberlainlaw01.WordCuts", spec := "wordCuts", apart := false, narrowed := true }
def WordCutsUptoSaid : Prop := wordCutsUptoRow.holds Try.pinned (OpenSpec.upto wordCutsSpec)

/-- 'chamberlainlaw01.WordKeeps', WHERE WHAT IT READS IS OF BULK AT MOST 1048576: true; the input reads as it did. -/
def wordKeepsUptoRow : OpenClaim := { program := "ytdeanahhmciibaa", sum := "a46e0cadd156fbbf4f477154f11abeeef7cda1f9d97d4fc0809e7f058cf2c300", func := "chamberlain/chamberlainlaw01.WordKeeps", spec := "wordKeeps", apart := false, narrowed := true }
def WordKeepsUptoSaid : Prop := wordKeepsUptoRow.holds Try.pinned (OpenSpec.upto wordKeepsSpec)

end Rows
end Go.Proofs.Ytdeanahhmciibaa
