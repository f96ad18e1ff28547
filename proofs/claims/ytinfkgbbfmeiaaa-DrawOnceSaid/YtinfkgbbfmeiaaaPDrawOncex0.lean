-- Written for this claim by wip/tools/myprint.py (print.py's forms; proofs of the faked functions by hand).
import Derived.WalkSpells
import Derived.WalkMore
import Derived.RangeFuncNested
import Derived.RangeFuncBound
import Derived.RangeFuncCalls
import Derived.RangeFuncLeaves
import Derived.RangeFuncBox
import Derived.Shelf.Abstract
import Derived.OwnWalkIn
import Derived.TacticsInMore
import Derived.LoopNIn
import Derived.LoopIn
import Derived.Maps.AppendAt
import Derived.Maps.OwnOps
import Derived.Maps.Views
import Derived.Test.YtinfkgbbfmeiaaaProg
import Derived.Below
import Derived.Deep.Draws
import Derived.Deep.AppendLies
import Derived.Maps.AppendAt
import Derived.OwnWalk
import Derived.Laws.BytesArg
import Derived.Laws.MakeOwn
import Derived.Laws.OwnMore
import Derived.Deep.OwnRows
import Derived.Tactics
import Derived.Lib.ConvBytes
import Derived.Laws.Slices
import Derived.WalkKit
import Derived.KernelRfl
import Derived.RowKit3
import Derived.Deep.LoopGhost
import Derived.Deep.QuietTactic
import Derived.BigQuiet
import Derived.WideLaws
import Derived.Deep.DeepCutAuto
import Derived.Deep.CutBlock
import Derived.Deep.RegionHeld3
import Derived.Laws.Rows
import Derived.Lib.AppendStr
import Derived.ArgAppend
import Derived.Laws.IdiomCopy
import Derived.OrdersHeld
import Derived.Laws.BitsLemmas
import Derived.RowKit
import Derived.Test.YtinfkgbbfmeiaaaWWords
import Derived.Test.YtinfkgbbfmeiaaaWLast
import Derived.Test.YtinfkgbbfmeiaaaWTab
import Derived.Test.YtinfkgbbfmeiaaaWFour
import Derived.Test.YtinfkgbbfmeiaaaWQPut
import Derived.Test.YtinfkgbbfmeiaaaWApart
import Derived.Test.YtinfkgbbfmeiaaaWArr
import Derived.Test.YtinfkgbbfmeiaaaWZeros
import Derived.Test.YtinfkgbbfmeiaaaWFoot
import Derived.Test.YtinfkgbbfmeiaaaWKept
import Derived.Test.YtinfkgbbfmeiaaaWShare
import Derived.Test.YtinfkgbbfmeiaaaWN
import Derived.Test.YtinfkgbbfmeiaaaWFootNe
import Derived.Test.YtinfkgbbfmeiaaaWAt
import Derived.Test.YtinfkgbbfmeiaaaWEqStruct
import Derived.Test.YtinfkgbbfmeiaaaWRepsOne
import Derived.Test.YtinfkgbbfmeiaaaWInv
import Derived.Test.YtinfkgbbfmeiaaaWInvWords
import Derived.Test.YtinfkgbbfmeiaaaWGuard
import Derived.Test.YtinfkgbbfmeiaaaWNEv
import Derived.Test.YtinfkgbbfmeiaaaWMore
namespace Go.Proofs.Ytinfkgbbfmeiaaa.PDrawOnce
open Go.RowKit Go.Proofs.YtinfkgbbfmeiaaaW.PrintWords Go.Proofs.YtinfkgbbfmeiaaaW.PrintLast Go.Proofs.YtinfkgbbfmeiaaaW.PrintMore
attribute [local go_sem] max2_int min2_int max_two min_two max_three min_three max_four min_four   -- for this text's walks alone
set_option linter.unusedVariables false
set_option linter.unusedSimpArgs false



def errW : Option Int → Value
  | none => .nilIface
  | some c => .iface 0 (.int .i64 c)
theorem errW_none : errW none = .nilIface := rfl
theorem errW_some (c : Int) : errW (some c) = .iface 0 (.int .i64 c) := rfl

theorem info27 : (Try.prog.info? 27).map (fun i => (i.zero, i.size, i.bytes)) = some (some (.int .u32 0), 1, 4) := by kernel_rfl
-- the values' own types

end Go.Proofs.Ytinfkgbbfmeiaaa.PDrawOnce
