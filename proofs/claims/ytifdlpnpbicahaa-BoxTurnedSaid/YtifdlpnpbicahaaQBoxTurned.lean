/- The one pure statement that is left of the law BoxTurned: what its printed Lean function answers, for all readable arguments. -/
import Derived.Test.YtifdlpnpbicahaaPBoxTurnedx6
namespace Go.Proofs.Ytifdlpnpbicahaa.Pure
open Go Go.RowKit Go.Proofs.Ytifdlpnpbicahaa.PBoxTurned Go.Proofs.YtifdlpnpbicahaaW.PrintWords
/-- A value of type 43 whose parts are of their kinds. -/
def G43 (x : S43) : Prop := (Lit.int .u32 x.f0).wf = true ∧ (Lit.int .u32 x.f1).wf = true ∧ (Lit.int .u32 x.f2).wf = true ∧ (x.f3.length ≤ maxLen ∧ ∀ y0 ∈ x.f3, (Lit.int .u32 y0).wf = true)
def chamberlainlaw07_BoxTurned.Pure : Prop := ∀ (a0_0 : Int) (l0_1 : List S43) (a1_0 : Int) (a1_1 : Int) (a1_2 : Int) (l1_3 : List Int) (a2_0 : Int) (a2_1 : Int) (a2_2 : Int) (l2_3 : List Int) (a3 : Int) (a4 : Int) (a5 : Int), (Lit.int .i64 a0_0).wf = true → l0_1.length ≤ maxLen → (∀ y0 ∈ l0_1, G43 y0) → (Lit.int .u32 a1_0).wf = true → (Lit.int .u32 a1_1).wf = true → (Lit.int .u32 a1_2).wf = true → l1_3.length ≤ maxLen → (∀ y0 ∈ l1_3, (Lit.int .u32 y0).wf = true) → (Lit.int .u32 a2_0).wf = true → (Lit.int .u32 a2_1).wf = true → (Lit.int .u32 a2_2).wf = true → l2_3.length ≤ maxLen → (∀ y0 ∈ l2_3, (Lit.int .u32 y0).wf = true) → (Lit.int .u32 a3).wf = true → (Lit.int .u32 a4).wf = true → (Lit.int .u32 a5).wf = true → ∃ k, chamberlainlaw07_BoxTurned.f k a0_0 l0_1 a1_0 a1_1 a1_2 l1_3 a2_0 a2_1 a2_2 l2_3 a3 a4 a5 = some true
end Go.Proofs.Ytifdlpnpbicahaa.Pure
