/- The clock's answers are the document's, for every three words of 32 bits; no condition. -/
import Derived.Test.YteikgomepljhfaaPClockAsksx1
namespace Go.Proofs.Yteikgomepljhfaa.Pure
open Go Go.RowKit Go.Proofs.Yteikgomepljhfaa.PClockAsks Go.Proofs.YteikgomepljhfaaW.PrintWords Go.Proofs.YteikgomepljhfaaW.PrintLast Go.Proofs.YteikgomepljhfaaW.PrintMore

theorem wf32 {x : Int} (h : (Lit.int .u32 x).wf = true) : 0 ≤ x ∧ x < 4294967296 := by
  simp only [Lit.wf, IntKind.min, IntKind.max, IntKind.signed, IntKind.bits, Bool.and_eq_true] at h
  simp at h
  omega
theorem sum_eq {a b : Int} (ha : 0 ≤ a ∧ a < 4294967296) (hb : 0 ≤ b ∧ b < 4294967296) : clock_sum.f a b = some (a + b) := by
  unfold clock_sum.f
  simp only [IntKind.wrap_u64]
  congr 1
  omega
theorem tick_eq {a b : Int} (ha : 0 ≤ a ∧ a < 4294967296) (hb : 0 ≤ b ∧ b < 4294967296) : clock_Tick.f a b = some (if a + b ≤ 1073741824 then a + b else 1073741824) := by
  unfold clock_Tick.f
  rw [sum_eq ha hb]
  simp only [Option.bind_some]
  congr 1
  unfold mn
  split <;> split <;> omega
theorem fresh_eq {a t w : Int} (ha : 0 ≤ a ∧ a < 4294967296) (ht : 0 ≤ t ∧ t < 4294967296) (hw : 0 ≤ w ∧ w < 4294967296) :
    clock_Fresh.f a t w = some (decide (a < 1073741824 ∧ t < 1073741824 ∧ a ≤ t + w ∧ t ≤ a + w)) := by
  unfold clock_Fresh.f
  rw [sum_eq ht hw, sum_eq ha hw]
  simp only [Option.bind_some, IntKind.wrap_u64]
  have e1 : a % 18446744073709551616 = a := by omega
  have e2 : t % 18446744073709551616 = t := by omega
  rw [e1, e2]
  by_cases h1 : a < 1073741824
  · by_cases h2 : t < 1073741824
    · by_cases h3 : a ≤ t + w
      · rw [if_pos h1, if_pos h2, if_pos h3]; simp [h1, h2, h3]
      · rw [if_pos h1, if_pos h2, if_neg h3]; simp [h3]
    · rw [if_pos h1, if_neg h2]; simp [h2]
  · rw [if_neg h1]; simp [h1]
theorem over_eq {a t w : Int} (ha : 0 ≤ a ∧ a < 4294967296) (ht : 0 ≤ t ∧ t < 4294967296) (hw : 0 ≤ w ∧ w < 4294967296) :
    clock_Over.f a t w = some (decide (1073741824 ≤ a ∨ t + w < a)) := by
  unfold clock_Over.f
  rw [sum_eq ht hw]
  simp only [Option.bind_some, IntKind.wrap_u64]
  have e1 : a % 18446744073709551616 = a := by omega
  rw [e1]
  by_cases h1 : a ≥ 1073741824
  · rw [if_pos h1]; simp [h1]
  · rw [if_neg h1]; simp [h1]
theorem awake_eq : chamberlainlaw05_awake.f = some true := by decide +kernel

theorem rtick_eq {a b : Int} (ha : 0 ≤ a ∧ a < 4294967296) (hb : 0 ≤ b ∧ b < 4294967296) : chamberlainref05_Tick.f a b = some (if a + b ≤ 1073741824 then a + b else 1073741824) := by
  unfold chamberlainref05_Tick.f
  simp only [IntKind.wrap_u64]
  have e1 : (a % 18446744073709551616 + b % 18446744073709551616) % 18446744073709551616 = a + b := by omega
  rw [e1]
  by_cases h : a + b ≤ 1073741824
  · rw [if_neg (by omega), if_pos h]; congr 1; omega
  · rw [if_pos (by omega), if_neg h]
theorem rfresh_eq {a t w : Int} (ha : 0 ≤ a ∧ a < 4294967296) (ht : 0 ≤ t ∧ t < 4294967296) (hw : 0 ≤ w ∧ w < 4294967296) :
    chamberlainref05_Fresh.f 1 a t w = some (decide (a < 1073741824 ∧ t < 1073741824 ∧ a ≤ t + w ∧ t ≤ a + w)) := by
  unfold chamberlainref05_Fresh.f
  simp only [chamberlainref05_Fresh.j0]
  have e0 : wrap64 a = a := by unfold wrap64; omega
  have e1 : wrap64 t = t := by unfold wrap64; omega
  have e2 : wrap64 w = w := by unfold wrap64; omega
  have e3 : wrap64 (a - t) = a - t := by unfold wrap64; omega
  have e4 : wrap64 (-(a - t)) = t - a := by unfold wrap64; omega
  rw [e0, e1, e2, e3, e4]
  by_cases h1 : a ≥ 1073741824
  · rw [if_pos h1]; simp only [if_true]; congr 1; symm; apply decide_eq_false; omega
  · rw [if_neg h1]
    by_cases h2 : t ≥ 1073741824
    · rw [if_pos (decide_eq_true h2)]; congr 1; symm; apply decide_eq_false; omega
    · rw [if_neg (by simpa using h2)]
      by_cases h3 : a - t < 0
      · rw [if_pos h3]; congr 1; apply decide_eq_decide.mpr; omega
      · rw [if_neg h3]; congr 1; apply decide_eq_decide.mpr; omega
theorem rover_eq {a t w : Int} (ha : 0 ≤ a ∧ a < 4294967296) (ht : 0 ≤ t ∧ t < 4294967296) (hw : 0 ≤ w ∧ w < 4294967296) :
    chamberlainref05_Over.f a t w = some (decide (1073741824 ≤ a ∨ t + w < a)) := by
  unfold chamberlainref05_Over.f
  have e0 : wrap64 a = a := by unfold wrap64; omega
  have e1 : wrap64 t = t := by unfold wrap64; omega
  have e2 : wrap64 w = w := by unfold wrap64; omega
  have e3 : wrap64 (t + w) = t + w := by unfold wrap64; omega
  rw [e0, e1, e2, e3]
  by_cases h1 : a ≥ 1073741824
  · rw [if_pos h1]; simp [h1]
  · rw [if_neg h1]; simp [h1]
theorem ClockAsks : chamberlainlaw05_ClockAsks.Pure := by
  intro a t w ha ht hw
  have ha := wf32 ha
  have ht := wf32 ht
  have hw := wf32 hw
  refine ⟨1, ?_⟩
  unfold chamberlainlaw05_ClockAsks.f
  rw [awake_eq, tick_eq ha ht, rtick_eq ha ht, fresh_eq ha ht hw, rfresh_eq ha ht hw, over_eq ha ht hw, rover_eq ha ht hw]
  simp

end Go.Proofs.Yteikgomepljhfaa.Pure
