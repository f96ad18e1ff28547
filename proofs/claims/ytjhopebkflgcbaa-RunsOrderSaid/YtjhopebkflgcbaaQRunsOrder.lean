/- The one pure statement that is left of the law RunsOrder: what its printed Lean function answers, for all readable arguments. -/
import Derived.Test.YtjhopebkflgcbaaPRunsOrderx6
namespace Go.Proofs.Ytjhopebkflgcbaa.Pure
open Go Go.RowKit Go.Proofs.Ytjhopebkflgcbaa.PRunsOrder Go.Proofs.YtjhopebkflgcbaaW.PrintWords
/-- A value of type 25 whose parts are of their kinds. -/
def G25 (x : S25) : Prop := (Lit.int .i64 x.f0).wf = true ∧ (Lit.int .i64 x.f1).wf = true ∧ (Lit.int .u32 x.f2).wf = true ∧ (Lit.int .u32 x.f3).wf = true ∧ (Lit.int .u32 x.f4).wf = true ∧ (Lit.int .u32 x.f5).wf = true ∧ (Lit.int .u32 x.f6).wf = true ∧ (Lit.int .u32 x.f7).wf = true ∧ (Lit.int .i64 x.f8).wf = true
def chamberlainlaw09_RunsOrder.Pure : Prop := ∀ (l0 : List S25) (a1 : Int) (a2 : Int) (a3 : Int), l0.length ≤ maxLen → (∀ y0 ∈ l0, G25 y0) → (Lit.int .i64 a1).wf = true → (Lit.int .i64 a2).wf = true → (Lit.int .i64 a3).wf = true → ∃ k, chamberlainlaw09_RunsOrder.f k l0 a1 a2 a3 = some true
end Go.Proofs.Ytjhopebkflgcbaa.Pure
