/- The one pure statement that is left of the law PeopleKeeps: what its printed Lean function answers, for all readable arguments. -/
import Derived.Test.YtlgbahgddpggfaaPPeopleKeepsx5
namespace Go.Proofs.Ytlgbahgddpggfaa.Pure
open Go Go.RowKit Go.Proofs.Ytlgbahgddpggfaa.PPeopleKeeps Go.Proofs.YtlgbahgddpggfaaW.PrintWords
/-- A value of type 66 whose parts are of their kinds. -/
def G66 (x : S66) : Prop := (Lit.int .i64 x.f0).wf = true ∧ (Lit.int .i64 x.f1).wf = true ∧ (Lit.int .u32 x.f2).wf = true ∧ (Lit.int .u32 x.f3).wf = true ∧ (Lit.int .u32 x.f4).wf = true ∧ (Lit.int .u32 x.f5).wf = true ∧ (Lit.int .u32 x.f6).wf = true ∧ (Lit.int .u32 x.f7).wf = true ∧ (Lit.int .i64 x.f8).wf = true
/-- A value of type 39 whose parts are of their kinds. -/
def G39 (x : S39) : Prop := (Lit.int .u32 x.f0).wf = true ∧ (Lit.int .u32 x.f1).wf = true ∧ (Lit.int .u32 x.f2).wf = true ∧ (x.f3.length ≤ maxLen ∧ ∀ y0 ∈ x.f3, (Lit.int .u32 y0).wf = true) ∧ (x.f4.length ≤ maxLen ∧ ∀ y0 ∈ x.f4, G66 y0) ∧ True
def chamberlainlaw10_PeopleKeeps.Pure : Prop := ∀ (l0 : List S39) (a1_0 : Int) (a1_1 : Int) (a1_2 : Int) (l1_3 : List Int) (l1_4 : List S66) (a1_5 : Bool), l0.length ≤ maxLen → (∀ y0 ∈ l0, G39 y0) → (Lit.int .u32 a1_0).wf = true → (Lit.int .u32 a1_1).wf = true → (Lit.int .u32 a1_2).wf = true → l1_3.length ≤ maxLen → (∀ y0 ∈ l1_3, (Lit.int .u32 y0).wf = true) → l1_4.length ≤ maxLen → (∀ y0 ∈ l1_4, G66 y0) → chamberlainlaw10_PeopleKeeps.f l0 a1_0 a1_1 a1_2 l1_3 l1_4 a1_5 = some true
end Go.Proofs.Ytlgbahgddpggfaa.Pure
