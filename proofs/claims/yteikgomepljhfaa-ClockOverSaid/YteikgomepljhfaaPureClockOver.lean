/- Just one of fresh, over, early holds, and a clock that goes on far enough is over, for every three words of 32 bits; no condition. -/
import Derived.Test.YteikgomepljhfaaPClockOverx1
namespace Go.Proofs.Yteikgomepljhfaa.Pure
open Go Go.RowKit Go.Proofs.Yteikgomepljhfaa.PClockOver Go.Proofs.YteikgomepljhfaaW.PrintWords Go.Proofs.YteikgomepljhfaaW.PrintLast Go.Proofs.YteikgomepljhfaaW.PrintMore

theorem wf32 {x : Int} (h : (Lit.int .u32 x).wf = true) : 0 ≤ x ∧ x < 4294967296 := by
  simp only [Lit.wf, IntKind.min, IntKind.max, IntKind.signed, IntKind.bits, Bool.and_eq_true] at h
  simp at h
  omega
theorem sum_eq {a b : Int} (ha : 0 ≤ a ∧ a < 4294967296) (hb : 0 ≤ b ∧ b < 4294967296) : clock_sum.f a b = some (a + b) := by
  unfold clock_sum.f
  simp only [IntKind.wrap_u64]
  congr 1
  omega
theorem tick_eq {a b : Int} (ha : 0 ≤ a ∧ a < 4294967296) (hb : 0 ≤ b ∧ b < 4294967296) : clock_Tick.f a b = some (if a + b ≤ 1073741824 then a + b else 1073741824) := by
  unfold clock_Tick.f
  rw [sum_eq ha hb]
  simp only [Option.bind_some]
  congr 1
  unfold mn
  split <;> split <;> omega
theorem fresh_eq {a t w : Int} (ha : 0 ≤ a ∧ a < 4294967296) (ht : 0 ≤ t ∧ t < 4294967296) (hw : 0 ≤ w ∧ w < 4294967296) :
    clock_Fresh.f a t w = some (decide (a < 1073741824 ∧ t < 1073741824 ∧ a ≤ t + w ∧ t ≤ a + w)) := by
  unfold clock_Fresh.f
  rw [sum_eq ht hw, sum_eq ha hw]
  simp only [Option.bind_some, IntKind.wrap_u64]
  have e1 : a % 18446744073709551616 = a := by omega
  have e2 : t % 18446744073709551616 = t := by omega
  rw [e1, e2]
  by_cases h1 : a < 1073741824
  · by_cases h2 : t < 1073741824
    · by_cases h3 : a ≤ t + w
      · rw [if_pos h1, if_pos h2, if_pos h3]; simp [h1, h2, h3]
      · rw [if_pos h1, if_pos h2, if_neg h3]; simp [h3]
    · rw [if_pos h1, if_neg h2]; simp [h2]
  · rw [if_neg h1]; simp [h1]
theorem over_eq {a t w : Int} (ha : 0 ≤ a ∧ a < 4294967296) (ht : 0 ≤ t ∧ t < 4294967296) (hw : 0 ≤ w ∧ w < 4294967296) :
    clock_Over.f a t w = some (decide (1073741824 ≤ a ∨ t + w < a)) := by
  unfold clock_Over.f
  rw [sum_eq ht hw]
  simp only [Option.bind_some, IntKind.wrap_u64]
  have e1 : a % 18446744073709551616 = a := by omega
  rw [e1]
  by_cases h1 : a ≥ 1073741824
  · rw [if_pos h1]; simp [h1]
  · rw [if_neg h1]; simp [h1]
theorem awake_eq : chamberlainlaw05_awake.f = some true := by decide +kernel

theorem ClockOver : chamberlainlaw05_ClockOver.Pure := by
  intro n t w hn ht hw
  have hn := wf32 hn
  have ht := wf32 ht
  have hw := wf32 hw
  refine ⟨1, ?_⟩
  unfold chamberlainlaw05_ClockOver.f
  rw [awake_eq]
  simp only [Option.bind_some, if_true, chamberlainlaw05_ClockOver.j0]
  by_cases h0 : n ≥ 1073741824
  · rw [if_pos h0, awake_eq]; rfl
  rw [if_neg h0]
  by_cases h1 : t ≥ 1073741824
  · rw [if_pos h1, awake_eq]; rfl
  rw [if_neg h1]
  by_cases h2 : w > 1073741824
  · rw [if_pos (decide_eq_true h2), awake_eq]; rfl
  rw [if_neg (by simpa using h2), fresh_eq hn ht hw, over_eq hn ht hw, over_eq ht hn hw, tick_eq hn (b := 1073741824) (by omega), tick_eq hn (b := 0) (by omega)]
  simp only [Option.bind_some]
  rw [over_eq (a := if n + 1073741824 ≤ 1073741824 then n + 1073741824 else 1073741824) (by split <;> omega) ht hw]
  simp only [Option.bind_some]
  repeat' split
  all_goals first | rfl | (simp_all; omega) | (simp_all; done) | (exfalso; simp_all; omega) | (congr 1; simp; omega)

end Go.Proofs.Yteikgomepljhfaa.Pure
