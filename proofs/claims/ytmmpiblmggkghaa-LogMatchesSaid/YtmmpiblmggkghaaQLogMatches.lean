/- The one pure statement that is left of the law LogMatches: what its printed Lean function answers, for all readable arguments. -/
import Derived.Test.YtmmpiblmggkghaaPLogMatchesx5
namespace Go.Proofs.Ytmmpiblmggkghaa.Pure
open Go Go.RowKit Go.Proofs.Ytmmpiblmggkghaa.PLogMatches Go.Proofs.YtmmpiblmggkghaaW.PrintWords
/-- A value of type 25 whose parts are of their kinds. -/
def G25 (x : S25) : Prop := (Lit.int .i64 x.f0).wf = true ∧ (Lit.int .i64 x.f1).wf = true ∧ (Lit.int .i64 x.f2).wf = true ∧ (Lit.int .u32 x.f3).wf = true ∧ (Lit.int .u32 x.f4).wf = true ∧ (Lit.int .u32 x.f5).wf = true ∧ (Lit.int .u32 x.f6).wf = true ∧ (Lit.int .u32 x.f7).wf = true ∧ (Lit.int .u32 x.f8).wf = true ∧ (Lit.int .u32 x.f9).wf = true
def chamberlainlaw19_LogMatches.Pure : Prop := ∀ (l0 : List S25) (l1 : List S25) (a2 : Int), l0.length ≤ maxLen → (∀ y0 ∈ l0, G25 y0) → l1.length ≤ maxLen → (∀ y0 ∈ l1, G25 y0) → (Lit.int .u16 a2).wf = true → ∃ k, chamberlainlaw19_LogMatches.f k l0 l1 a2 = some true
end Go.Proofs.Ytmmpiblmggkghaa.Pure
