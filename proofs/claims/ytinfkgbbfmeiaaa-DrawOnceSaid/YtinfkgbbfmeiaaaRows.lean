/-
  No cell of these rows narrows 'for every input' (looked for: loops, veiled, ifaces, maps, wideKeys, modest, calm, conditions, laid).
  DERIVED. THE GIVEN ROWS OF THIS SEAT. 4 by the template 'for every input the law returns true; each argument reads behind the call as it read before'; 0 by the template 'total and deterministic' (their statements: YtinfkgbbfmeiaaaTotals.lean).
  GIVEN WITH THE SEED: the statements are not yours to turn. If you find one false, say at which input.
  Laid BY PROGRAM, IN A SANDBOX (cutbox-rows.mjs): the forced cells as the released guide's own fill.sh prints them over the translation 2926587212cfd054… (all of the seat's roots in one cut). By AI agents, Wed Nov 11 2026. No macro, syntax, notation, axiom, sorry.
-/
import Derived.Test.YtinfkgbbfmeiaaaChecked
import GoSem.Claim
import GoSem.ClaimJoined
import GoSem.ClaimMapViews
import Derived.JoinedTies
import Derived.KernelRfl
namespace Go.Proofs.Ytinfkgbbfmeiaaa
/- THE CELL 'sum', in the pinned program and in every row, IS THE sha256 OF THE DUMP (.gsa) THAT YtinfkgbbfmeiaaaProg.lean LOADS. Nothing in Lean hashes anything: it is a label: what it is worth is what the hold of that sum in a sandbox is worth. -/
noncomputable def Try.pinned : Pinned := { name := "ytinfkgbbfmeiaaa", sum := "2926587212cfd05487449339241d6667a4bd18834ed0e875e5ce35b8dc0a95b1", checked := Try.checked }
namespace Rows
def none {H : Type} : Left H := { results := [], args := [] }

/-- 'chamberlainlaw04.DrawTakes': WHATEVER THE INPUT: true; the input reads as it did. -/
def drawTakesSpec : ChangeSpec := { name := "drawTakes", fn := fun _ => fun
  | [d1, d2] => { results := [.lit (.bool true)], args := [d1, d2] }
  | _ => none }
def drawTakesRow : OpenClaim := { program := "ytinfkgbbfmeiaaa", sum := "2926587212cfd05487449339241d6667a4bd18834ed0e875e5ce35b8dc0a95b1", func := "chamberlain/chamberlainlaw04.DrawTakes", spec := "drawTakes", unfollowed := true, recurses := true, apart := false }
def DrawTakesSaid : Prop := drawTakesRow.holds Try.pinned (OpenSpec.ofChange drawTakesSpec)

/-- ITS FALSE NEIGHBOUR: 'it returns false'. Refute it at one input. -/
def drawTakesWrong : ChangeSpec := { name := "drawTakes", fn := fun _ => fun
  | [d1, d2] => { results := [.lit (.bool false)], args := [d1, d2] }
  | _ => none }
def DrawTakesWrongFalsely : Prop := drawTakesRow.holds Try.pinned (OpenSpec.ofChange drawTakesWrong)

/-- 'chamberlainlaw04.DrawUnlikes': WHATEVER THE INPUT: true; the input reads as it did. -/
def drawUnlikesSpec : ChangeSpec := { name := "drawUnlikes", fn := fun _ => fun
  | [d] => { results := [.lit (.bool true)], args := [d] }
  | _ => none }
def drawUnlikesRow : OpenClaim := { program := "ytinfkgbbfmeiaaa", sum := "2926587212cfd05487449339241d6667a4bd18834ed0e875e5ce35b8dc0a95b1", func := "chamberlain/chamberlainlaw04.DrawUnlikes", spec := "drawUnlikes", unfollowed := true, recurses := true, apart := false }
def DrawUnlikesSaid : Prop := drawUnlikesRow.holds Try.pinned (OpenSpec.ofChange drawUnlikesSpec)

/-- ITS FALSE NEIGHBOUR: 'it returns false'. Refute it at one input. -/
def drawUnlikesWrong : ChangeSpec := { name := "drawUnlikes", fn := fun _ => fun
  | [d] => { results := [.lit (.bool false)], args := [d] }
  | _ => none }
def DrawUnlikesWrongFalsely : Prop := drawUnlikesRow.holds Try.pinned (OpenSpec.ofChange drawUnlikesWrong)

/-- 'chamberlainlaw04.DrawOnce': WHATEVER THE INPUT: true; the input reads as it did. -/
def drawOnceSpec : ChangeSpec := { name := "drawOnce", fn := fun _ => fun
  | [d1, d2, d3] => { results := [.lit (.bool true)], args := [d1, d2, d3] }
  | _ => none }
def drawOnceRow : OpenClaim := { program := "ytinfkgbbfmeiaaa", sum := "2926587212cfd05487449339241d6667a4bd18834ed0e875e5ce35b8dc0a95b1", func := "chamberlain/chamberlainlaw04.DrawOnce", spec := "drawOnce", unfollowed := true, recurses := true, apart := false }
def DrawOnceSaid : Prop := drawOnceRow.holds Try.pinned (OpenSpec.ofChange drawOnceSpec)

/-- ITS FALSE NEIGHBOUR: 'it returns false'. Refute it at one input. -/
def drawOnceWrong : ChangeSpec := { name := "drawOnce", fn := fun _ => fun
  | [d1, d2, d3] => { results := [.lit (.bool false)], args := [d1, d2, d3] }
  | _ => none }
def DrawOnceWrongFalsely : Prop := drawOnceRow.holds Try.pinned (OpenSpec.ofChange drawOnceWrong)

/-- 'chamberlainlaw04.DrawKeeps': WHATEVER THE INPUT: true; the input reads as it did. -/
def drawKeepsSpec : ChangeSpec := { name := "drawKeeps", fn := fun _ => fun
  | [d1, d2] => { results := [.lit (.bool true)], args := [d1, d2] }
  | _ => none }
def drawKeepsRow : OpenClaim := { program := "ytinfkgbbfmeiaaa", sum := "2926587212cfd05487449339241d6667a4bd18834ed0e875e5ce35b8dc0a95b1", func := "chamberlain/chamberlainlaw04.DrawKeeps", spec := "drawKeeps", unfollowed := true, recurses := true, apart := false }
def DrawKeepsSaid : Prop := drawKeepsRow.holds Try.pinned (OpenSpec.ofChange drawKeepsSpec)

/-- ITS FALSE NEIGHBOUR: 'it returns false'. Refute it at one input. -/
def drawKeepsWrong : ChangeSpec := { name := "drawKeeps", fn := fun _ => fun
  | [d1, d2] => { results := [.lit (.bool false)], args := [d1, d2] }
  | _ => none }
def DrawKeepsWrongFalsely : Prop := drawKeepsRow.holds Try.pinned (OpenSpec.ofChange drawKeepsWrong)

/- THE SECOND FORM. 'bulk': how many values and letters a reading holds, each counted each time it is reached (what is shared counts as often as it is met; a slice's spare places count too). A statement '..UptoSaid' is the law's where the arguments, and the package variables that the reading takes, are together of bulk at most 1048576: NARROWER than '..Said'. Prove '..Said' where nothing that the law and all that it calls make is longer than what came in: it says more and counts as full. Else prove '..UptoSaid'. A law counts once. -/
mutual
def uptoBulk {H : Type} : DataW H → Nat
  | .lit (.string bytes) => bytes.length + 1
  | .lit _ => 1
  | .nil => 1
  | .ptr d => uptoBulk d + 1
  | .slice elems spare => uptoBulkAll elems + uptoBulkAll spare + 1
  | .agg parts => uptoBulkAll parts + 1
  | .iface _ d => uptoBulk d + 1
  | .map entries => uptoBulkEntries entries + 1
  | .held _ => 1
def uptoBulkAll {H : Type} : List (DataW H) → Nat
  | [] => 0
  | d :: r => uptoBulk d + uptoBulkAll r
def uptoBulkEntries {H : Type} : List (Lit × DataW H) → Nat
  | [] => 0
  | x :: r => uptoBulkEntry x + uptoBulkEntries r
def uptoBulkEntry {H : Type} : Lit × DataW H → Nat
  | (.string bytes, d) => bytes.length + uptoBulk d + 1
  | (_, d) => uptoBulk d + 1
 end
def uptoSmall : (H : Type) → List (DataW H) → Bool := fun _ ds => decide (uptoBulkAll ds ≤ 1048576)
def OpenSpec.upto (s : _root_.Go.ChangeSpec) : _root_.Go.OpenSpec := { _root_.Go.OpenSpec.ofChange s with cond := some uptoSmall }

/-- 'chamberlainlaw04.DrawTakes', WHERE WHAT IT READS IS OF BULK AT MOST 1048576: true; the input reads as it did. -/
def drawTakesUptoRow : OpenClaim := { program := "ytinfkgbbfmeiaaa", sum := "2926587212cfd05487449339241d6667a4bd18834ed0e875e5ce35b8dc0a95b1", func := "chamberlain/chamberlainlaw04.DrawTakes", spec := "drawTakes", unfollowed := true, recurses := true, apart := false, narrowed := true }
def DrawTakesUptoSaid : Prop := drawTakesUptoRow.holds Try.pinned (OpenSpec.upto drawTakesSpec)

/-- 'chamberlainlaw04.DrawUnlikes', WHERE WHAT IT READS IS OF BULK AT MOST 1048576: true; the input reads as it did. -/
def drawUnlikesUptoRow : OpenClaim := { program := "ytinfkgbbfmeiaaa", sum := "2926587212cfd05487449339241d6667a4bd18834ed0e875e5ce35b8dc0a95b1", func := "chamberlain/chamberlainlaw04.DrawUnlikes", spec := "drawUnlikes", unfollowed := true, recurses := true, apart := false, narrowed := true }
def DrawUnlikesUptoSaid : Prop := drawUnlikesUptoRow.holds Try.pinned (OpenSpec.upto drawUnlikesSpec)

/-- 'chamberlainlaw04.DrawOnce', WHERE WHAT IT READS IS OF BULK AT MOST 1048576: true; the input reads as it did. -/
def drawOnceUptoRow : OpenClaim := { program := "ytinfkgbbfmeiaaa", sum := "2926587212cfd05487449339241d6667a4bd18834ed0e875e5ce35b8dc0a95b1", func := "chamberlain/chamberlainlaw04.DrawOnce", spec := "drawOnce", unfollowed := true, recurses := true, apart := false, narrowed := true }
def DrawOnceUptoSaid : Prop := drawOnceUptoRow.holds Try.pinned (OpenSpec.upto drawOnceSpec)

/-- 'chamberlainlaw04.DrawKeeps', WHERE WHAT IT READS IS OF BULK AT MOST 1048576: true; the input reads as it did. -/
def drawKeepsUptoRow : OpenClaim := { program := "ytinfkgbbfmeiaaa", sum := "2926587212cfd05487449339241d6667a4bd18834ed0e875e5ce35b8dc0a95b1", func := "chamberlain/chamberlainlaw04.DrawKeeps", spec := "drawKeeps", unfollowed := true, recurses := true, apart := false, narrowed := true }
def DrawKeepsUptoSaid : Prop := drawKeepsUptoRow.holds Try.pinned (OpenSpec.upto drawKeepsSpec)

end Rows
end Go.Proofs.Ytinfkgbbfmeiaaa
