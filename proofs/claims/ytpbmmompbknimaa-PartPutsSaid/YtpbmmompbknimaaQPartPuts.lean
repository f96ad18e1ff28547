/- The one pure statement that is left of the law PartPuts: what its printed Lean function answers, for all readable arguments. -/
import Derived.Test.YtpbmmompbknimaaPPartPutsx6
namespace Go.Proofs.Ytpbmmompbknimaa.Pure
open Go Go.RowKit Go.Proofs.Ytpbmmompbknimaa.PPartPuts Go.Proofs.YtpbmmompbknimaaW.PrintWords
def chamberlainlaw11_PartPuts.Pure : Prop := ∀ (a0 : Int) (a1_0 : Int) (a1_1 : Int) (a1_2 : Int) (a1_3 : Int) (a1_4 : Int) (a1_5 : Int) (a1_6 : Int), (Lit.int .u32 a0).wf = true → (Lit.int .u32 a1_0).wf = true → (Lit.int .u32 a1_1).wf = true → (Lit.int .u32 a1_2).wf = true → (Lit.int .u32 a1_3).wf = true → (Lit.int .u32 a1_4).wf = true → (Lit.int .u32 a1_5).wf = true → (Lit.int .u32 a1_6).wf = true → ∃ k, chamberlainlaw11_PartPuts.f k a0 a1_0 a1_1 a1_2 a1_3 a1_4 a1_5 a1_6 = some true
end Go.Proofs.Ytpbmmompbknimaa.Pure
