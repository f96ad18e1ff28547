/- Whatever the adversary does to a world that has its form, nobody else's clock, key, runs or used words change, for every world and operation; no condition. -/
import Derived.Test.YthlcpbendleihaaQAdvAlone
namespace Go.Proofs.Ythlcpbendleihaa.Pure
open Go Go.RowKit Go.Proofs.Ythlcpbendleihaa.PAdvAlone Go.Proofs.YthlcpbendleihaaW.PrintWords Go.Proofs.YthlcpbendleihaaW.PrintLast Go.Proofs.YthlcpbendleihaaW.PrintMore
set_option linter.unusedVariables false
set_option linter.unusedSimpArgs false
theorem AdvAlone : law_AdvAlone.Pure := by
  intro a0_0 a0_1 a0_2 a0_3 a0_4 a0_5 a0_6 l0_7 a0_8 a0_9 l0_10 a0_11 l0_12 l0_13 l0_14 l0_15 l0_16 l0_17 a1_0 a1_1 a1_2 a1_3 a1_4 l1_5 _ _ _ _ _ _ _ _ h7 _ _ _ _ _ _ _ _ _ _ _ _ h15 _ _ _ _ _ _ _ _ _ _ _
  unfold law_AdvAlone.f
  rw [if_pos]
  simp only [Bool.and_eq_true, List.all_eq_true, decide_eq_true_eq]
  exact ⟨fun q hq => wf32 (h7 q hq), fun e he => wf32 (h15 e he).2.2.2.2.1⟩
end Go.Proofs.Ythlcpbendleihaa.Pure
