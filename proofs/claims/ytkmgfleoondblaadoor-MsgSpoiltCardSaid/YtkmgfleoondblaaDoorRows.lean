/-
  NARROWER THAN 'FOR EVERY INPUT', by the rows' own cells (each row's printed sentence says how): MsgPuts: laid · MsgGets: laid · MsgBack: laid · MsgSpoilt: laid · MsgKeeps: laid.
  DERIVED. THE GIVEN ROWS OF THIS SEAT. 5 by the template 'for every input the law returns true; each argument reads behind the call as it read before'; 0 by the template 'total and deterministic' (their statements: YtkmgfleoondblaaDoorTotals.lean).
  GIVEN WITH THE SEED: the statements are not yours to turn. If you find one false, say at which input.
  Laid BY PROGRAM, IN A SANDBOX (cutbox-rows.mjs): the forced cells as the released guide's own fill.sh prints them over the translation 7f4b1d0e6427ae43… (all of the seat's roots in one cut). By AI agents, Wed Nov 11 2026. No macro, syntax, notation, axiom, sorry.
-/
import Derived.Test.YtkmgfleoondblaaDoorChecked
import GoSem.Claim
import GoSem.ClaimJoined
import GoSem.ClaimMapViews
import Derived.JoinedTies
import Derived.KernelRfl
namespace Go.Proofs.YtkmgfleoondblaaDoor
/- THE CELL 'sum', in the pinned program and in every row, IS THE sha256 OF THE DUMP (.gsa) THAT YtkmgfleoondblaaDoorProg.lean LOADS. Nothing in Lean hashes anything: it is a label: what it is worth is what the hold of that sum in a sandbox is worth. -/
noncomputable def Tryd.pinned : Pinned := { name := "ytkmgfleoondblaadoor", sum := "7f4b1d0e6427ae43dcc6e02ccd834d317119491f5440930400bad9efd8c74ad6", checked := Tryd.checked }
namespace Rows
def none {H : Type} : Left H := { results := [], args := [] }

/- WHAT THE LISTED PACKAGE-LEVEL VARIABLES READ AS WHEN THE CALL BEGINS. Each datum BY PROGRAM (the guide's laid-datum.mjs) off the statement by which the dump's own 'gosem.cut.vars' lays the variable. In a bare row this is a premise. The card (YtkmgfleoondblaaDoorCards.lean) ties it to the program's text. -/
def laid_chamberlain_msg_has {H : Type} : DataW H := .agg [.lit (.int .u32 0), .lit (.int .u32 56), .lit (.int .u32 64), .lit (.int .u32 64), .lit (.int .u32 64), .lit (.int .u32 64), .lit (.int .u32 92), .lit (.int .u32 220), .lit (.int .u32 196), .lit (.int .u32 68)]

/-- 'chamberlainlaw03.MsgPuts': WHATEVER THE INPUT: true; the input reads as it did. -/
def msgPutsSpec : ChangeSpec := { name := "msgPuts", fn := fun _ => fun
  | [d] => { results := [.lit (.bool true)], args := [d] }
  | _ => none }
def msgPutsRow : OpenClaim := { program := "ytkmgfleoondblaadoor", sum := "7f4b1d0e6427ae43dcc6e02ccd834d317119491f5440930400bad9efd8c74ad6", func := "chamberlain/chamberlainlaw03.MsgPuts", spec := "msgPuts", named := ["chamberlain/msg.has"], apart := false, laid := [("chamberlain/msg.has", laid_chamberlain_msg_has)] }
def MsgPutsSaid : Prop := msgPutsRow.holds Tryd.pinned (OpenSpec.ofChange msgPutsSpec)

/-- ITS FALSE NEIGHBOUR: 'it returns false'. Refute it at one input. -/
def msgPutsWrong : ChangeSpec := { name := "msgPuts", fn := fun _ => fun
  | [d] => { results := [.lit (.bool false)], args := [d] }
  | _ => none }
def MsgPutsWrongFalsely : Prop := msgPutsRow.holds Tryd.pinned (OpenSpec.ofChange msgPutsWrong)

/-- 'chamberlainlaw03.MsgGets': WHATEVER THE INPUT: true; the input reads as it did. -/
def msgGetsSpec : ChangeSpec := { name := "msgGets", fn := fun _ => fun
  | [d] => { results := [.lit (.bool true)], args := [d] }
  | _ => none }
def msgGetsRow : OpenClaim := { program := "ytkmgfleoondblaadoor", sum := "7f4b1d0e6427ae43dcc6e02ccd834d317119491f5440930400bad9efd8c74ad6", func := "chamberlain/chamberlainlaw03.MsgGets", spec := "msgGets", named := ["chamberlain/msg.has"], apart := false, laid := [("chamberlain/msg.has", laid_chamberlain_msg_has)] }
def MsgGetsSaid : Prop := msgGetsRow.holds Tryd.pinned (OpenSpec.ofChange msgGetsSpec)

/-- ITS FALSE NEIGHBOUR: 'it returns false'. Refute it at one input. -/
def msgGetsWrong : ChangeSpec := { name := "msgGets", fn := fun _ => fun
  | [d] => { results := [.lit (.bool false)], args := [d] }
  | _ => none }
def MsgGetsWrongFalsely : Prop := msgGetsRow.holds Tryd.pinned (OpenSpec.ofChange msgGetsWrong)

/-- 'chamberlainlaw03.MsgBack': WHATEVER THE INPUT: true; the input reads as it did. -/
def msgBackSpec : ChangeSpec := { name := "msgBack", fn := fun _ => fun
  | [d1, d2, d3] => { results := [.lit (.bool true)], args := [d1, d2, d3] }
  | _ => none }
def msgBackRow : OpenClaim := { program := "ytkmgfleoondblaadoor", sum := "7f4b1d0e6427ae43dcc6e02ccd834d317119491f5440930400bad9efd8c74ad6", func := "chamberlain/chamberlainlaw03.MsgBack", spec := "msgBack", named := ["chamberlain/msg.has"], apart := false, laid := [("chamberlain/msg.has", laid_chamberlain_msg_has)] }
def MsgBackSaid : Prop := msgBackRow.holds Tryd.pinned (OpenSpec.ofChange msgBackSpec)

/-- ITS FALSE NEIGHBOUR: 'it returns false'. Refute it at one input. -/
def msgBackWrong : ChangeSpec := { name := "msgBack", fn := fun _ => fun
  | [d1, d2, d3] => { results := [.lit (.bool false)], args := [d1, d2, d3] }
  | _ => none }
def MsgBackWrongFalsely : Prop := msgBackRow.holds Tryd.pinned (OpenSpec.ofChange msgBackWrong)

/-- 'chamberlainlaw03.MsgSpoilt': WHATEVER THE INPUT: true; the input reads as it did. -/
def msgSpoiltSpec : ChangeSpec := { name := "msgSpoilt", fn := fun _ => fun
  | [d1, d2, d3, d4, d5] => { results := [.lit (.bool true)], args := [d1, d2, d3, d4, d5] }
  | _ => none }
def msgSpoiltRow : OpenClaim := { program := "ytkmgfleoondblaadoor", sum := "7f4b1d0e6427ae43dcc6e02ccd834d317119491f5440930400bad9efd8c74ad6", func := "chamberlain/chamberlainlaw03.MsgSpoilt", spec := "msgSpoilt", named := ["chamberlain/msg.has"], apart := false, laid := [("chamberlain/msg.has", laid_chamberlain_msg_has)] }
def MsgSpoiltSaid : Prop := msgSpoiltRow.holds Tryd.pinned (OpenSpec.ofChange msgSpoiltSpec)

/-- ITS FALSE NEIGHBOUR: 'it returns false'. Refute it at one input. -/
def msgSpoiltWrong : ChangeSpec := { name := "msgSpoilt", fn := fun _ => fun
  | [d1, d2, d3, d4, d5] => { results := [.lit (.bool false)], args := [d1, d2, d3, d4, d5] }
  | _ => none }
def MsgSpoiltWrongFalsely : Prop := msgSpoiltRow.holds Tryd.pinned (OpenSpec.ofChange msgSpoiltWrong)

/-- 'chamberlainlaw03.MsgKeeps': WHATEVER THE INPUT: true; the input reads as it did. -/
def msgKeepsSpec : ChangeSpec := { name := "msgKeeps", fn := fun _ => fun
  | [d] => { results := [.lit (.bool true)], args := [d] }
  | _ => none }
def msgKeepsRow : OpenClaim := { program := "ytkmgfleoondblaadoor", sum := "7f4b1d0e6427ae43dcc6e02ccd834d317119491f5440930400bad9efd8c74ad6", func := "chamberlain/chamberlainlaw03.MsgKeeps", spec := "msgKeeps", named := ["chamberlain/msg.has"], apart := false, laid := [("chamberlain/msg.has", laid_chamberlain_msg_has)] }
def MsgKeepsSaid : Prop := msgKeepsRow.holds Tryd.pinned (OpenSpec.ofChange msgKeepsSpec)

/-- ITS FALSE NEIGHBOUR: 'it returns false'. Refute it at one input. -/
def msgKeepsWrong : ChangeSpec := { name := "msgKeeps", fn := fun _ => fun
  | [d] => { results := [.lit (.bool false)], args := [d] }
  | _ => none }
def MsgKeepsWrongFalsely : Prop := msgKeepsRow.holds Tryd.pinned (OpenSpec.ofChange msgKeepsWrong)

/- THE SECOND FORM. 'bulk': how many values and letters a reading holds, each counted each time it is reached (what is shared counts as often as it is met; a slice's spare places count too). A statement '..UptoSaid' is the law's where the arguments, and the package variables that the reading takes, are together of bulk at most 1048576: NARROWER than '..Said'. Prove '..Said' where nothing that the law and all that it calls make is longer than what came in: it says more and counts as full. Else prove '..UptoSaid'. A law counts once. -/
mutual
def uptoBulk {H : Type} : DataW H → Nat
  | .lit (.string bytes) => bytes.length + 1
  | .lit _ => 1
  | .nil => 1
  | .ptr d => uptoBulk d + 1
  | .slice elems spare => uptoBulkAll elems + uptoBulkAll spare + 1
  | .agg parts => uptoBulkAll parts + 1
  | .iface _ d => uptoBulk d + 1
  | .map entries => uptoBulkEntries entries + 1
  | .held _ => 1
def uptoBulkAll {H : Type} : List (DataW H) → Nat
  | [] => 0
  | d :: r => uptoBulk d + uptoBulkAll r
def uptoBulkEntries {H : Type} : List (Lit × DataW H) → Nat
  | [] => 0
  | x :: r => uptoBulkEntry x + uptoBulkEntries r
def uptoBulkEntry {H : Type} : Lit × DataW H → Nat
  | (.string bytes, d) => bytes.length + uptoBulk d + 1
  | (_, d) => uptoBulk d + 1
 end
def uptoSmall : (H : Type) → List (DataW H) → Bool := fun _ ds => decide (uptoBulkAll ds ≤ 1048576)
def OpenSpec.upto (s : _root_.Go.ChangeSpec) : _root_.Go.OpenSpec := { _root_.Go.OpenSpec.ofChange s with cond := some uptoSmall }

/-- 'chamberlainlaw03.MsgPuts', WHERE WHAT IT READS IS OF BULK AT MOST 1048576: true; the input reads as it did. -/
def msgPutsUptoRow : OpenClaim := { program := "ytkmgfleoondblaadoor", sum := "7f4b1d0e6427ae43dcc6e02ccd834d317119491f5440930400bad9efd8c74ad6", func := "chamberlain/chamberlainlaw03.MsgPuts", spec := "msgPuts", named := ["chamberlain/msg.has"], apart := false, laid := [("chamberlain/msg.has", laid_chamberlain_msg_has)], narrowed := true }
def MsgPutsUptoSaid : Prop := msgPutsUptoRow.holds Tryd.pinned (OpenSpec.upto msgPutsSpec)

/-- 'chamberlainlaw03.MsgGets', WHERE WHAT IT READS IS OF BULK AT MOST 1048576: true; the input reads as it did. -/
def msgGetsUptoRow : OpenClaim := { program := "ytkmgfleoondblaadoor", sum := "7f4b1d0e6427ae43dcc6e02ccd834d317119491f5440930400bad9efd8c74ad6", func := "chamberlain/chamberlainlaw03.MsgGets", spec := "msgGets", named := ["chamberlain/msg.has"], apart := false, laid := [("chamberlain/msg.has", laid_chamberlain_msg_has)], narrowed := true }
def MsgGetsUptoSaid : Prop := msgGetsUptoRow.holds Tryd.pinned (OpenSpec.upto msgGetsSpec)

/-- 'chamberlainlaw03.MsgBack', WHERE WHAT IT READS IS OF BULK AT MOST 1048576: true; the input reads as it did. -/
def msgBackUptoRow : OpenClaim := { program := "ytkmgfleoondblaadoor", sum := "7f4b1d0e6427ae43dcc6e02ccd834d317119491f5440930400bad9efd8c74ad6", func := "chamberlain/chamberlainlaw03.MsgBack", spec := "msgBack", named := ["chamberlain/msg.has"], apart := false, laid := [("chamberlain/msg.has", laid_chamberlain_msg_has)], narrowed := true }
def MsgBackUptoSaid : Prop := msgBackUptoRow.holds Tryd.pinned (OpenSpec.upto msgBackSpec)

/-- 'chamberlainlaw03.MsgSpoilt', WHERE WHAT IT READS IS OF BULK AT MOST 1048576: true; the input reads as it did. -/
def msgSpoiltUptoRow : OpenClaim := { program := "ytkmgfleoondblaadoor", sum := "7f4b1d0e6427ae43dcc6e02ccd834d317119491f5440930400bad9efd8c74ad6", func := "chamberlain/chamberlainlaw03.MsgSpoilt", spec := "msgSpoilt", named := ["chamberlain/msg.has"], apart := false, laid := [("chamberlain/msg.has", laid_chamberlain_msg_has)], narrowed := true }
def MsgSpoiltUptoSaid : Prop := msgSpoiltUptoRow.holds Tryd.pinned (OpenSpec.upto msgSpoiltSpec)

/-- 'chamberlainlaw03.MsgKeeps', WHERE WHAT IT READS IS OF BULK AT MOST 1048576: true; the input reads as it did. -/
def msgKeepsUptoRow : OpenClaim := { program := "ytkmgfleoondblaadoor", sum := "7f4b1d0e6427ae43dcc6e02ccd834d317119491f5440930400bad9efd8c74ad6", func := "chamberlain/chamberlainlaw03.MsgKeeps", spec := "msgKeeps", named := ["chamberlain/msg.has"], apart := false, laid := [("chamberlain/msg.has", laid_chamberlain_msg_has)], narrowed := true }
def MsgKeepsUptoSaid : Prop := msgKeepsUptoRow.holds Tryd.pinned (OpenSpec.upto msgKeepsSpec)

end Rows
end Go.Proofs.YtkmgfleoondblaaDoor
