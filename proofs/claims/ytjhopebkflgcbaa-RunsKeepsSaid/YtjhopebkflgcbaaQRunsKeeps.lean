/- The one pure statement that is left of the law RunsKeeps: what its printed Lean function answers, for all readable arguments. -/
import Derived.Test.YtjhopebkflgcbaaPRunsKeepsx5
namespace Go.Proofs.Ytjhopebkflgcbaa.Pure
open Go Go.RowKit Go.Proofs.Ytjhopebkflgcbaa.PRunsKeeps Go.Proofs.YtjhopebkflgcbaaW.PrintWords
/-- A value of type 25 whose parts are of their kinds. -/
def G25 (x : S25) : Prop := (Lit.int .i64 x.f0).wf = true ∧ (Lit.int .i64 x.f1).wf = true ∧ (Lit.int .u32 x.f2).wf = true ∧ (Lit.int .u32 x.f3).wf = true ∧ (Lit.int .u32 x.f4).wf = true ∧ (Lit.int .u32 x.f5).wf = true ∧ (Lit.int .u32 x.f6).wf = true ∧ (Lit.int .u32 x.f7).wf = true ∧ (Lit.int .i64 x.f8).wf = true
def chamberlainlaw09_RunsKeeps.Pure : Prop := ∀ (l0 : List S25) (a1_0 : Int) (a1_1 : Int) (a1_2 : Int) (a1_3 : Int) (a1_4 : Int) (a1_5 : Int) (a1_6 : Int) (a1_7 : Int) (a1_8 : Int) (a2 : Int), l0.length ≤ maxLen → (∀ y0 ∈ l0, G25 y0) → (Lit.int .i64 a1_0).wf = true → (Lit.int .i64 a1_1).wf = true → (Lit.int .u32 a1_2).wf = true → (Lit.int .u32 a1_3).wf = true → (Lit.int .u32 a1_4).wf = true → (Lit.int .u32 a1_5).wf = true → (Lit.int .u32 a1_6).wf = true → (Lit.int .u32 a1_7).wf = true → (Lit.int .i64 a1_8).wf = true → (Lit.int .i64 a2).wf = true → chamberlainlaw09_RunsKeeps.f l0 a1_0 a1_1 a1_2 a1_3 a1_4 a1_5 a1_6 a1_7 a1_8 a2 = some true
end Go.Proofs.Ytjhopebkflgcbaa.Pure
