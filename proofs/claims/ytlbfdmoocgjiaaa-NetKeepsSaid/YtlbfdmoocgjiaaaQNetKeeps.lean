/- The one pure statement that is left of the law NetKeeps: what its printed Lean function answers, for all readable arguments. -/
import Derived.Test.YtlbfdmoocgjiaaaPNetKeepsx8
namespace Go.Proofs.Ytlbfdmoocgjiaaa.Pure
open Go Go.RowKit Go.Proofs.Ytlbfdmoocgjiaaa.PNetKeeps Go.Proofs.YtlbfdmoocgjiaaaW.PrintWords
/-- A value of type 29 whose parts are of their kinds. -/
def G29 (x : S29) : Prop := (Lit.int .u32 x.f0).wf = true ∧ (x.f1.length ≤ maxLen ∧ ∀ y0 ∈ x.f1, (Lit.int .u32 y0).wf = true)
def chamberlainlaw06_NetKeeps.Pure : Prop := ∀ (a0_0 : Int) (l0_1 : List S29) (l0_2 : List (List Int)) (a1_0 : Int) (l1_1 : List Int) (a2 : Int), (Lit.int .i64 a0_0).wf = true → l0_1.length ≤ maxLen → (∀ y0 ∈ l0_1, G29 y0) → l0_2.length ≤ maxLen → (∀ y0 ∈ l0_2, (y0.length ≤ maxLen ∧ ∀ y1 ∈ y0, (Lit.int .u32 y1).wf = true)) → (Lit.int .u32 a1_0).wf = true → l1_1.length ≤ maxLen → (∀ y0 ∈ l1_1, (Lit.int .u32 y0).wf = true) → (Lit.int .i64 a2).wf = true → chamberlainlaw06_NetKeeps.f a0_0 l0_1 l0_2 a1_0 l1_1 a2 = some true
end Go.Proofs.Ytlbfdmoocgjiaaa.Pure
