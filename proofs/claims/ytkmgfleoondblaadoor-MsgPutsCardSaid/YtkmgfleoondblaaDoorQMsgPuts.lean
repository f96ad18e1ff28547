/- The one pure statement that is left of the law MsgPuts: what its printed Lean function answers, for all readable arguments. -/
import Derived.Test.YtkmgfleoondblaaDoorPMsgPutsx4
namespace Go.Proofs.YtkmgfleoondblaaDoor.Pure
open Go Go.RowKit Go.Proofs.YtkmgfleoondblaaDoor.PMsgPuts Go.Proofs.YtkmgfleoondblaaDoorW.PrintWords
def chamberlainlaw03_MsgPuts.Pure : Prop := ∀ (a0_0 : Int) (a0_1 : Int) (a0_2 : Int) (a0_3 : Int) (a0_4 : Int) (a0_5 : Int) (a0_6 : Int), (Lit.int .u32 a0_0).wf = true → (Lit.int .u32 a0_1).wf = true → (Lit.int .u32 a0_2).wf = true → (Lit.int .u32 a0_3).wf = true → (Lit.int .u32 a0_4).wf = true → (Lit.int .u32 a0_5).wf = true → (Lit.int .u32 a0_6).wf = true → ∃ k, chamberlainlaw03_MsgPuts.f k a0_0 a0_1 a0_2 a0_3 a0_4 a0_5 a0_6 = some true
end Go.Proofs.YtkmgfleoondblaaDoor.Pure
