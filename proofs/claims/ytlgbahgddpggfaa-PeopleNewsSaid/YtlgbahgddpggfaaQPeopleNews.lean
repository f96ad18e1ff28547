/- The one pure statement that is left of the law PeopleNews: what its printed Lean function answers, for all readable arguments. -/
import Derived.Test.YtlgbahgddpggfaaPPeopleNewsx5
namespace Go.Proofs.Ytlgbahgddpggfaa.Pure
open Go Go.RowKit Go.Proofs.Ytlgbahgddpggfaa.PPeopleNews Go.Proofs.YtlgbahgddpggfaaW.PrintWords
/-- A value of type 66 whose parts are of their kinds. -/
def G66 (x : S66) : Prop := (Lit.int .i64 x.f0).wf = true ∧ (Lit.int .i64 x.f1).wf = true ∧ (Lit.int .u32 x.f2).wf = true ∧ (Lit.int .u32 x.f3).wf = true ∧ (Lit.int .u32 x.f4).wf = true ∧ (Lit.int .u32 x.f5).wf = true ∧ (Lit.int .u32 x.f6).wf = true ∧ (Lit.int .u32 x.f7).wf = true ∧ (Lit.int .i64 x.f8).wf = true
/-- A value of type 39 whose parts are of their kinds. -/
def G39 (x : S39) : Prop := (Lit.int .u32 x.f0).wf = true ∧ (Lit.int .u32 x.f1).wf = true ∧ (Lit.int .u32 x.f2).wf = true ∧ (x.f3.length ≤ maxLen ∧ ∀ y0 ∈ x.f3, (Lit.int .u32 y0).wf = true) ∧ (x.f4.length ≤ maxLen ∧ ∀ y0 ∈ x.f4, G66 y0) ∧ True
def chamberlainlaw10_PeopleNews.Pure : Prop := ∀ (a0 : Int) (l1_0 : List Int) (a1_1 : Int) (l2 : List S39), (Lit.int .i64 a0).wf = true → l1_0.length ≤ maxLen → (∀ y0 ∈ l1_0, (Lit.int .u32 y0).wf = true) → (Lit.int .i64 a1_1).wf = true → l2.length ≤ maxLen → (∀ y0 ∈ l2, G39 y0) → ∃ k, chamberlainlaw10_PeopleNews.f k a0 l1_0 a1_1 l2 = some true
end Go.Proofs.Ytlgbahgddpggfaa.Pure
