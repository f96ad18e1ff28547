/- The one pure statement that is left of the law LogLess: what its printed Lean function answers, for all readable arguments. -/
import Derived.Test.YtmmpiblmggkghaaPLogLessx5
namespace Go.Proofs.Ytmmpiblmggkghaa.Pure
open Go Go.RowKit Go.Proofs.Ytmmpiblmggkghaa.PLogLess Go.Proofs.YtmmpiblmggkghaaW.PrintWords
/-- A value of type 25 whose parts are of their kinds. -/
def G25 (x : S25) : Prop := (Lit.int .i64 x.f0).wf = true ∧ (Lit.int .i64 x.f1).wf = true ∧ (Lit.int .i64 x.f2).wf = true ∧ (Lit.int .u32 x.f3).wf = true ∧ (Lit.int .u32 x.f4).wf = true ∧ (Lit.int .u32 x.f5).wf = true ∧ (Lit.int .u32 x.f6).wf = true ∧ (Lit.int .u32 x.f7).wf = true ∧ (Lit.int .u32 x.f8).wf = true ∧ (Lit.int .u32 x.f9).wf = true
def chamberlainlaw19_LogLess.Pure : Prop := ∀ (l0 : List S25) (l1 : List S25) (a2_0 : Int) (a2_1 : Int) (a2_2 : Int) (a2_3 : Int) (a2_4 : Int) (a2_5 : Int) (a2_6 : Int) (a2_7 : Int) (a2_8 : Int) (a2_9 : Int) (a3 : Int) (a4 : Int), l0.length ≤ maxLen → (∀ y0 ∈ l0, G25 y0) → l1.length ≤ maxLen → (∀ y0 ∈ l1, G25 y0) → (Lit.int .i64 a2_0).wf = true → (Lit.int .i64 a2_1).wf = true → (Lit.int .i64 a2_2).wf = true → (Lit.int .u32 a2_3).wf = true → (Lit.int .u32 a2_4).wf = true → (Lit.int .u32 a2_5).wf = true → (Lit.int .u32 a2_6).wf = true → (Lit.int .u32 a2_7).wf = true → (Lit.int .u32 a2_8).wf = true → (Lit.int .u32 a2_9).wf = true → (Lit.int .u16 a3).wf = true → (Lit.int .u16 a4).wf = true → ∃ k, chamberlainlaw19_LogLess.f k l0 l1 a2_0 a2_1 a2_2 a2_3 a2_4 a2_5 a2_6 a2_7 a2_8 a2_9 a3 a4 = some true
end Go.Proofs.Ytmmpiblmggkghaa.Pure
