/- The one pure statement that is left of the law DrawKeeps: what its printed Lean function answers, for all readable arguments. -/
import Derived.Test.YtinfkgbbfmeiaaaPDrawKeepsx3
namespace Go.Proofs.Ytinfkgbbfmeiaaa.Pure
open Go Go.RowKit Go.Proofs.Ytinfkgbbfmeiaaa.PDrawKeeps Go.Proofs.YtinfkgbbfmeiaaaW.PrintWords
def chamberlainlaw04_DrawKeeps.Pure : Prop := ∀ (l0_0 : List Int) (a0_1 : Int) (a1 : Int), l0_0.length ≤ maxLen → (∀ y0 ∈ l0_0, (Lit.int .u32 y0).wf = true) → (Lit.int .i64 a0_1).wf = true → (Lit.int .u8 a1).wf = true → ∃ k, chamberlainlaw04_DrawKeeps.f k l0_0 a0_1 a1 = some true
end Go.Proofs.Ytinfkgbbfmeiaaa.Pure
