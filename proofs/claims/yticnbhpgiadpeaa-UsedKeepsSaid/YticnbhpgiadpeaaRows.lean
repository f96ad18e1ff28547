/-
  No cell of these rows narrows 'for every input' (looked for: loops, veiled, ifaces, maps, wideKeys, modest, calm, conditions, laid).
  DERIVED. THE GIVEN ROWS OF THIS SEAT. 4 by the template 'for every input the law returns true; each argument reads behind the call as it read before'; 0 by the template 'total and deterministic' (their statements: YticnbhpgiadpeaaTotals.lean).
  GIVEN WITH THE SEED: the statements are not yours to turn. If you find one false, say at which input.
  Laid BY PROGRAM, IN A SANDBOX (cutbox-rows.mjs): the forced cells as the released guide's own fill.sh prints them over the translation c71b05a37a5624c0… (all of the seat's roots in one cut). By AI agents, Wed Nov 11 2026. No macro, syntax, notation, axiom, sorry.
-/
import Derived.Test.YticnbhpgiadpeaaChecked
import GoSem.Claim
import GoSem.ClaimJoined
import GoSem.ClaimMapViews
import Derived.JoinedTies
import Derived.KernelRfl
namespace Go.Proofs.Yticnbhpgiadpeaa
/- THE CELL 'sum', in the pinned program and in every row, IS THE sha256 OF THE DUMP (.gsa) THAT YticnbhpgiadpeaaProg.lean LOADS. Nothing in Lean hashes anything: it is a label: what it is worth is what the hold of that sum in a sandbox is worth. -/
noncomputable def Try.pinned : Pinned := { name := "yticnbhpgiadpeaa", sum := "c71b05a37a5624c04751fb2c3dba625a66284f6210dad5cd71b32e6359b51d1e", checked := Try.checked }
namespace Rows
def none {H : Type} : Left H := { results := [], args := [] }

/-- 'chamberlainlaw08.UsedNotes': WHATEVER THE INPUT: true; the input reads as it did. -/
def usedNotesSpec : ChangeSpec := { name := "usedNotes", fn := fun _ => fun
  | [d1, d2, d3] => { results := [.lit (.bool true)], args := [d1, d2, d3] }
  | _ => none }
def usedNotesRow : OpenClaim := { program := "yticnbhpgiadpeaa", sum := "c71b05a37a5624c04751fb2c3dba625a66284f6210dad5cd71b32e6359b51d1e", func := "chamberlain/chamberlainlaw08.UsedNotes", spec := "usedNotes", apart := false }
def UsedNotesSaid : Prop := usedNotesRow.holds Try.pinned (OpenSpec.ofChange usedNotesSpec)

/-- ITS FALSE NEIGHBOUR: 'it returns false'. Refute it at one input. -/
def usedNotesWrong : ChangeSpec := { name := "usedNotes", fn := fun _ => fun
  | [d1, d2, d3] => { results := [.lit (.bool false)], args := [d1, d2, d3] }
  | _ => none }
def UsedNotesWrongFalsely : Prop := usedNotesRow.holds Try.pinned (OpenSpec.ofChange usedNotesWrong)

/-- 'chamberlainlaw08.UsedOnce': WHATEVER THE INPUT: true; the input reads as it did. -/
def usedOnceSpec : ChangeSpec := { name := "usedOnce", fn := fun _ => fun
  | [d1, d2] => { results := [.lit (.bool true)], args := [d1, d2] }
  | _ => none }
def usedOnceRow : OpenClaim := { program := "yticnbhpgiadpeaa", sum := "c71b05a37a5624c04751fb2c3dba625a66284f6210dad5cd71b32e6359b51d1e", func := "chamberlain/chamberlainlaw08.UsedOnce", spec := "usedOnce", apart := false }
def UsedOnceSaid : Prop := usedOnceRow.holds Try.pinned (OpenSpec.ofChange usedOnceSpec)

/-- ITS FALSE NEIGHBOUR: 'it returns false'. Refute it at one input. -/
def usedOnceWrong : ChangeSpec := { name := "usedOnce", fn := fun _ => fun
  | [d1, d2] => { results := [.lit (.bool false)], args := [d1, d2] }
  | _ => none }
def UsedOnceWrongFalsely : Prop := usedOnceRow.holds Try.pinned (OpenSpec.ofChange usedOnceWrong)

/-- 'chamberlainlaw08.UsedKeeps': WHATEVER THE INPUT: true; the input reads as it did. -/
def usedKeepsSpec : ChangeSpec := { name := "usedKeeps", fn := fun _ => fun
  | [d1, d2] => { results := [.lit (.bool true)], args := [d1, d2] }
  | _ => none }
def usedKeepsRow : OpenClaim := { program := "yticnbhpgiadpeaa", sum := "c71b05a37a5624c04751fb2c3dba625a66284f6210dad5cd71b32e6359b51d1e", func := "chamberlain/chamberlainlaw08.UsedKeeps", spec := "usedKeeps", apart := false }
def UsedKeepsSaid : Prop := usedKeepsRow.holds Try.pinned (OpenSpec.ofChange usedKeepsSpec)

/-- ITS FALSE NEIGHBOUR: 'it returns false'. Refute it at one input. -/
def usedKeepsWrong : ChangeSpec := { name := "usedKeeps", fn := fun _ => fun
  | [d1, d2] => { results := [.lit (.bool false)], args := [d1, d2] }
  | _ => none }
def UsedKeepsWrongFalsely : Prop := usedKeepsRow.holds Try.pinned (OpenSpec.ofChange usedKeepsWrong)

/-- 'chamberlainlaw08.UsedMore': WHATEVER THE INPUT: true; the input reads as it did. -/
def usedMoreSpec : ChangeSpec := { name := "usedMore", fn := fun _ => fun
  | [d1, d2, d3, d4, d5] => { results := [.lit (.bool true)], args := [d1, d2, d3, d4, d5] }
  | _ => none }
def usedMoreRow : OpenClaim := { program := "yticnbhpgiadpeaa", sum := "c71b05a37a5624c04751fb2c3dba625a66284f6210dad5cd71b32e6359b51d1e", func := "chamberlain/chamberlainlaw08.UsedMore", spec := "usedMore", apart := false }
def UsedMoreSaid : Prop := usedMoreRow.holds Try.pinned (OpenSpec.ofChange usedMoreSpec)

/-- ITS FALSE NEIGHBOUR: 'it returns false'. Refute it at one input. -/
def usedMoreWrong : ChangeSpec := { name := "usedMore", fn := fun _ => fun
  | [d1, d2, d3, d4, d5] => { results := [.lit (.bool false)], args := [d1, d2, d3, d4, d5] }
  | _ => none }
def UsedMoreWrongFalsely : Prop := usedMoreRow.holds Try.pinned (OpenSpec.ofChange usedMoreWrong)

/- THE SECOND FORM. 'bulk': how many values and letters a reading holds, each counted each time it is reached (what is shared counts as often as it is met; a slice's spare places count too). A statement '..UptoSaid' is the law's where the arguments, and the package variables that the reading takes, are together of bulk at most 1048576: NARROWER than '..Said'. Prove '..Said' where nothing that the law and all that it calls make is longer than what came in: it says more and counts as full. Else prove '..UptoSaid'. A law counts once. -/
mutual
def uptoBulk {H : Type} : DataW H → Nat
  | .lit (.string bytes) => bytes.length + 1
  | .lit _ => 1
  | .nil => 1
  | .ptr d => uptoBulk d + 1
  | .slice elems spare => uptoBulkAll elems + uptoBulkAll spare + 1
  | .agg parts => uptoBulkAll parts + 1
  | .iface _ d => uptoBulk d + 1
  | .map entries => uptoBulkEntries entries + 1
  | .held _ => 1
def uptoBulkAll {H : Type} : List (DataW H) → Nat
  | [] => 0
  | d :: r => uptoBulk d + uptoBulkAll r
def uptoBulkEntries {H : Type} : List (Lit × DataW H) → Nat
  | [] => 0
  | x :: r => uptoBulkEntry x + uptoBulkEntries r
def uptoBulkEntry {H : Type} : Lit × DataW H → Nat
  | (.string bytes, d) => bytes.length + uptoBulk d + 1
  | (_, d) => uptoBulk d + 1
 end
def uptoSmall : (H : Type) → List (DataW H) → Bool := fun _ ds => decide (uptoBulkAll ds ≤ 1048576)
def OpenSpec.upto (s : _root_.Go.ChangeSpec) : _root_.Go.OpenSpec := { _root_.Go.OpenSpec.ofChange s with cond := some uptoSmall }

/-- 'chamberlainlaw08.UsedNotes', WHERE WHAT IT READS IS OF BULK AT MOST 1048576: true; the input reads as it did. -/
def usedNotesUptoRow : OpenClaim := { program := "yticnbhpgiadpeaa", sum := "c71b05a37a5624c04751fb2c3dba625a66284f6210dad5cd71b32e6359b51d1e", func := "chamberlain/chamberlainlaw08.UsedNotes", spec := "usedNotes", apart := false, narrowed := true }
def UsedNotesUptoSaid : Prop := usedNotesUptoRow.holds Try.pinned (OpenSpec.upto usedNotesSpec)

/-- 'chamberlainlaw08.UsedOnce', WHERE WHAT IT READS IS OF BULK AT MOST 1048576: true; the input reads as it did. -/
def usedOnceUptoRow : OpenClaim := { program := "yticnbhpgiadpeaa", sum := "c71b05a37a5624c04751fb2c3dba625a66284f6210dad5cd71b32e6359b51d1e", func := "chamberlain/chamberlainlaw08.UsedOnce", spec := "usedOnce", apart := false, narrowed := true }
def UsedOnceUptoSaid : Prop := usedOnceUptoRow.holds Try.pinned (OpenSpec.upto usedOnceSpec)

/-- 'chamberlainlaw08.UsedKeeps', WHERE WHAT IT READS IS OF BULK AT MOST 1048576: true; the input reads as it did. -/
def usedKeepsUptoRow : OpenClaim := { program := "yticnbhpgiadpeaa", sum := "c71b05a37a5624c04751fb2c3dba625a66284f6210dad5cd71b32e6359b51d1e", func := "chamberlain/chamberlainlaw08.UsedKeeps", spec := "usedKeeps", apart := false, narrowed := true }
def UsedKeepsUptoSaid : Prop := usedKeepsUptoRow.holds Try.pinned (OpenSpec.upto usedKeepsSpec)

/-- 'chamberlainlaw08.UsedMore', WHERE WHAT IT READS IS OF BULK AT MOST 1048576: true; the input reads as it did. -/
def usedMoreUptoRow : OpenClaim := { program := "yticnbhpgiadpeaa", sum := "c71b05a37a5624c04751fb2c3dba625a66284f6210dad5cd71b32e6359b51d1e", func := "chamberlain/chamberlainlaw08.UsedMore", spec := "usedMore", apart := false, narrowed := true }
def UsedMoreUptoSaid : Prop := usedMoreUptoRow.holds Try.pinned (OpenSpec.upto usedMoreSpec)

end Rows
end Go.Proofs.Yticnbhpgiadpeaa
