/- The one pure statement that is left of the law DrawOnce: what its printed Lean function answers, for all readable arguments. -/
import Derived.Test.YtinfkgbbfmeiaaaPDrawOncex4
namespace Go.Proofs.Ytinfkgbbfmeiaaa.Pure
open Go Go.RowKit Go.Proofs.Ytinfkgbbfmeiaaa.PDrawOnce Go.Proofs.YtinfkgbbfmeiaaaW.PrintWords
def chamberlainlaw04_DrawOnce.Pure : Prop := ∀ (l0 : List Int) (a1 : Int) (a2 : Int), l0.length ≤ maxLen → (∀ y0 ∈ l0, (Lit.int .u32 y0).wf = true) → (Lit.int .u8 a1).wf = true → (Lit.int .u8 a2).wf = true → ∃ k, chamberlainlaw04_DrawOnce.f k l0 a1 a2 = some true
end Go.Proofs.Ytinfkgbbfmeiaaa.Pure
