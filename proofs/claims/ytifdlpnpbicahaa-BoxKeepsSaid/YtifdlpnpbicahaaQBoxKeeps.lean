/- The one pure statement that is left of the law BoxKeeps: what its printed Lean function answers, for all readable arguments. -/
import Derived.Test.YtifdlpnpbicahaaPBoxKeepsx6
namespace Go.Proofs.Ytifdlpnpbicahaa.Pure
open Go Go.RowKit Go.Proofs.Ytifdlpnpbicahaa.PBoxKeeps Go.Proofs.YtifdlpnpbicahaaW.PrintWords
/-- A value of type 43 whose parts are of their kinds. -/
def G43 (x : S43) : Prop := (Lit.int .u32 x.f0).wf = true ∧ (Lit.int .u32 x.f1).wf = true ∧ (Lit.int .u32 x.f2).wf = true ∧ (x.f3.length ≤ maxLen ∧ ∀ y0 ∈ x.f3, (Lit.int .u32 y0).wf = true)
def chamberlainlaw07_BoxKeeps.Pure : Prop := ∀ (a0_0 : Int) (l0_1 : List S43) (a1 : Int) (a2 : Int) (a3 : Int) (l4 : List Int), (Lit.int .i64 a0_0).wf = true → l0_1.length ≤ maxLen → (∀ y0 ∈ l0_1, G43 y0) → (Lit.int .u32 a1).wf = true → (Lit.int .u32 a2).wf = true → (Lit.int .u32 a3).wf = true → l4.length ≤ maxLen → (∀ y0 ∈ l4, (Lit.int .u32 y0).wf = true) → chamberlainlaw07_BoxKeeps.f a0_0 l0_1 a1 a2 a3 l4 = some true
end Go.Proofs.Ytifdlpnpbicahaa.Pure
