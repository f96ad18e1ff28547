/- The one pure statement that is left of the law MsgSpoilt: what its printed Lean function answers, for all readable arguments. -/
import Derived.Test.YtkmgfleoondblaaDoorPMsgSpoiltx5
namespace Go.Proofs.YtkmgfleoondblaaDoor.Pure
open Go Go.RowKit Go.Proofs.YtkmgfleoondblaaDoor.PMsgSpoilt Go.Proofs.YtkmgfleoondblaaDoorW.PrintWords
def chamberlainlaw03_MsgSpoilt.Pure : Prop := ∀ (a0 : Int) (a1_0 : Int) (a1_1 : Int) (a1_2 : Int) (a1_3 : Int) (a1_4 : Int) (a1_5 : Int) (a2 : Int) (a3 : Int) (a4 : Int), (Lit.int .u8 a0).wf = true → (Lit.int .u32 a1_0).wf = true → (Lit.int .u32 a1_1).wf = true → (Lit.int .u32 a1_2).wf = true → (Lit.int .u32 a1_3).wf = true → (Lit.int .u32 a1_4).wf = true → (Lit.int .u32 a1_5).wf = true → (Lit.int .u8 a2).wf = true → (Lit.int .u32 a3).wf = true → (Lit.int .u32 a4).wf = true → ∃ k, chamberlainlaw03_MsgSpoilt.f k a0 a1_0 a1_1 a1_2 a1_3 a1_4 a1_5 a2 a3 a4 = some true
end Go.Proofs.YtkmgfleoondblaaDoor.Pure
