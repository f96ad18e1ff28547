-- Written for this claim by wip/tools/myprint.py (print.py's forms; proofs of the faked functions by hand).
import Derived.Test.YtlgbahgddpggfaaPPeopleKeysx0
import Derived.Test.YtlgbahgddpggfaaPPeopleKeysx1
namespace Go.Proofs.Ytlgbahgddpggfaa.PPeopleKeys
open Go.RowKit Go.Proofs.YtlgbahgddpggfaaW.PrintWords Go.Proofs.YtlgbahgddpggfaaW.PrintLast Go.Proofs.YtlgbahgddpggfaaW.PrintMore
attribute [local go_sem] max2_int min2_int max_two min_two max_three min_three max_four min_four   -- for this text's walks alone
set_option linter.unusedVariables false
set_option linter.unusedSimpArgs false

attribute [local go_sem high] eqA66
/-! ### chamberlainref01_Same: function 26 -/
def chamberlainref01_Same.l0 : Nat → List Int → List Int → Int → Option (Bool)
  | 0, _, _, _ => none
  | k + 1, x0, x1, x5 => if x5 < (x0.length : Int) then (if 0 ≤ x5 then (if x5 < (x1.length : Int) then (if (rd x0 x5) = (rd x1 x5) then (chamberlainref01_Same.l0 k x0 x1 (wrap64 (x5 + 1))) else (some false)) else (none)) else (none)) else (some true)
def chamberlainref01_Same.f (k : Nat) (l0 : List Int) (l1 : List Int) : Option (Bool) := if (l0.length : Int) = (l1.length : Int) then (chamberlainref01_Same.l0 k l0 l1 0) else (some false)
theorem chamberlainref01_Same.mono_l : ∀ k, (∀ y0 y1 y2, LeO (chamberlainref01_Same.l0 k y0 y1 y2) (chamberlainref01_Same.l0 (k + 1) y0 y1 y2))
  | 0 => fun _ _ _ r h => by simp [chamberlainref01_Same.l0] at h
  | k + 1 => by
    have ih0 := chamberlainref01_Same.mono_l k
    · intro y0 y1 y2
      unfold chamberlainref01_Same.l0
      repeat' first
      | (with_reducible exact ih0 _ _ _)
      | (with_reducible exact LeO.refl _)
      | (with_reducible exact LeO.none _)
      | (with_reducible refine LeO.ite ?_ ?_)
      | (with_reducible refine LeO.bind ?_ (fun _ => ?_))
      | exact ih0 _ _ _
      | exact LeO.none _
      | refine LeO.ite ?_ ?_
      | refine LeO.bind ?_ (fun _ => ?_)
theorem chamberlainref01_Same.mono : ∀ a0 a1 k, LeO (chamberlainref01_Same.f k a0 a1) (chamberlainref01_Same.f (k + 1) a0 a1) := by
  intro a0 a1 k
  have ih0 := chamberlainref01_Same.mono_l k
  unfold chamberlainref01_Same.f
  repeat' first
      | (with_reducible exact ih0 _ _ _)
      | (with_reducible exact LeO.refl _)
      | (with_reducible exact LeO.none _)
      | (with_reducible refine LeO.ite ?_ ?_)
      | (with_reducible refine LeO.bind ?_ (fun _ => ?_))
      | exact ih0 _ _ _
      | exact LeO.none _
      | refine LeO.ite ?_ ?_
      | refine LeO.bind ?_ (fun _ => ?_)
set_option maxHeartbeats 8000000 in
set_option maxRecDepth 100000 in
theorem chamberlainref01_Same.calls (k : Nat) (A0 : Option Addr) (c0 : Nat) (l0 : List Int) (A1 : Option Addr) (c1 : Nat) (l1 : List Int) (r : Bool) (w : World) (hr0 : Kd.C (Kd.int .u32) w A0 l0.length l0) (hc0 : l0.length ≤ c0) (hr1 : Kd.C (Kd.int .u32) w A1 l1.length l1) (hc1 : l1.length ≤ c1) (h : chamberlainref01_Same.f k l0 l1 = some r) :
    Calls Try.prog 26 #[.slice A0 l0.length c0, .slice A1 l1.length c1] w fun e w' => e = .returned (.bool r) ∧ Drawn0 w w' := by
  have HR0 := Aside0.mk hr0
  have HC0 := Aside0.mk hc0
  clear hr0 hc0
  have HR1 := Aside0.mk hr1
  have HC1 := Aside0.mk hc1
  clear hr1 hc1
  have H : (if (l0.length : Int) = (l1.length : Int) then (chamberlainref01_Same.l0 k l0 l1 0) else (some false)) = some r := h
  clear h
  by_cases c3 : (l0.length : Int) = (l1.length : Int)
  · rw [if_pos c3] at H
    have c3b0 : ((l0.length : Int) == (l1.length : Int)) = true := beq_iff_eq.mpr c3
    have c3b1 : ((l0.length : Int) != (l1.length : Int)) = false := bne_eq_false_iff_eq.mpr c3
    have c3b2 : (l0.length == l1.length) = true := by first | simpa using c3 | (simp at c3 ⊢; omega)
    clear c3
    have H' := Aside0.mk H
    clear H
    go_enter Try.func26, Try.ntmps26
    go_wp2
    repeat (go_quiet (fail); try go_wp2)
    go_loopg [5] k (fun kq v5 w' => ∃ (x5_1 : Int), v5 = .int .i64 x5_1 ∧ Aside0 (chamberlainref01_Same.l0 kq l0 l1 x5_1 = some r) ∧ Aside0 (kq ≤ k) ∧ Drawn0 w w')
    case atStart => exact ⟨(0), (by first | rfl | (simp; done) | (simp [*]; done)), H', ⟨Nat.le_refl _⟩, by repeat (first | exact Drawn0.refl _ | apply Drawn0.step)⟩
    case round =>
      clear H'
      try clear c1
      try clear c2
      try clear p2
      try clear c3
      try clear c3b0
      try clear c3b1
      try clear c3b2
      obtain ⟨x5_1, rfl, HA, HK1, ⟨m1, rfl⟩⟩ := hrel
      cases gk with
      | zero => exact absurd HA.out (by simp [chamberlainref01_Same.l0])
      | succ k1 =>
        have H := HA.out
        clear HA
        simp only [chamberlainref01_Same.l0] at H
        by_cases c4 : x5_1 < (l0.length : Int)
        · rw [if_pos c4] at H
          have c4b0 : decide (x5_1 < (l0.length : Int)) = true := decide_eq_true c4
          clear c4
          by_cases c5 : 0 ≤ x5_1
          · rw [if_pos c5] at H
            have c5b0 : decide (0 ≤ x5_1) = true := decide_eq_true c5
            clear c5
            by_cases c6 : x5_1 < (l1.length : Int)
            · rw [if_pos c6] at H
              have c6b0 : decide (x5_1 < (l1.length : Int)) = true := decide_eq_true c6
              clear c6
              by_cases c7 : (rd l0 x5_1) = (rd l1 x5_1)
              · rw [if_pos c7] at H
                have c7b0 : ((rd l0 x5_1) == (rd l1 x5_1)) = true := beq_iff_eq.mpr c7
                have c7b1 : ((rd l0 x5_1) != (rd l1 x5_1)) = false := bne_eq_false_iff_eq.mpr c7
                clear c7
                have H' := Aside0.mk H
                clear H
                have p218 : 0 ≤ (x5_1 : Int) := of_decide_eq_true (by first | (with_reducible assumption) | assumption)
                have q218 : x5_1 < (l0.length : Int) := of_decide_eq_true (by first | (with_reducible assumption) | assumption)
                obtain ⟨ad218, e218, hx218_0⟩ := Kd.at_int HR0.out x5_1 p218 q218
                cases e218
                replace p218 := eq_true p218
                replace q218 := eq_true q218
                have p219 : 0 ≤ (x5_1 : Int) := of_decide_eq_true (by first | (with_reducible assumption) | assumption)
                have q219 : x5_1 < (l1.length : Int) := of_decide_eq_true (by first | (with_reducible assumption) | assumption)
                obtain ⟨ad219, e219, hx219_0⟩ := Kd.at_int HR1.out x5_1 p219 q219
                cases e219
                replace p219 := eq_true p219
                replace q219 := eq_true q219
                go_wp2
                repeat (go_quiet (fail); try go_wp2)
                go_roundg k1
                case measure => have := HK1.out; omega
                case rel => exact ⟨(wrap64 (x5_1 + 1)), (by first | rfl | (simp; done) | (simp [*]; done)), H', ⟨by have := HK1.out; omega⟩, by repeat (first | exact Drawn0.refl _ | apply Drawn0.step)⟩
              · rw [if_neg c7] at H
                have c7b0 : ((rd l0 x5_1) == (rd l1 x5_1)) = false := beq_eq_false_iff_ne.mpr c7
                have c7b1 : ((rd l0 x5_1) != (rd l1 x5_1)) = true := bne_iff_ne.mpr c7
                obtain rfl := Option.some.inj H
                have p218 : 0 ≤ (x5_1 : Int) := of_decide_eq_true (by first | (with_reducible assumption) | assumption)
                have q218 : x5_1 < (l0.length : Int) := of_decide_eq_true (by first | (with_reducible assumption) | assumption)
                obtain ⟨ad218, e218, hx218_0⟩ := Kd.at_int HR0.out x5_1 p218 q218
                cases e218
                replace p218 := eq_true p218
                replace q218 := eq_true q218
                have p219 : 0 ≤ (x5_1 : Int) := of_decide_eq_true (by first | (with_reducible assumption) | assumption)
                have q219 : x5_1 < (l1.length : Int) := of_decide_eq_true (by first | (with_reducible assumption) | assumption)
                obtain ⟨ad219, e219, hx219_0⟩ := Kd.at_int HR1.out x5_1 p219 q219
                cases e219
                replace p219 := eq_true p219
                replace q219 := eq_true q219
                go_wp2
                repeat (go_quiet (fail); try go_wp2)
                go_ret
                exact ⟨by first | rfl | (simp; done) | (simp [*]; done), by repeat (first | exact Drawn0.refl _ | apply Drawn0.step)⟩
            · rw [if_neg c6] at H
              exact absurd H (by simp)
          · rw [if_neg c5] at H
            exact absurd H (by simp)
        · rw [if_neg c4] at H
          have c4b0 : decide (x5_1 < (l0.length : Int)) = false := decide_eq_false c4
          clear c4
          obtain rfl := Option.some.inj H
          go_wp2
          repeat (go_quiet (fail); try go_wp2)
          go_ret
          exact ⟨by first | rfl | (simp; done) | (simp [*]; done), by repeat (first | exact Drawn0.refl _ | apply Drawn0.step)⟩
  · rw [if_neg c3] at H
    have c3b0 : ((l0.length : Int) == (l1.length : Int)) = false := beq_eq_false_iff_ne.mpr c3
    have c3b1 : ((l0.length : Int) != (l1.length : Int)) = true := bne_iff_ne.mpr c3
    have c3b2 : (l0.length == l1.length) = false := by first | simpa using c3 | (simp at c3 ⊢; omega)
    obtain rfl := Option.some.inj H
    go_enter Try.func26, Try.ntmps26
    go_wp2
    repeat (go_quiet (fail); try go_wp2)
    go_ret
    exact ⟨by first | rfl | (simp; done) | (simp [*]; done), by repeat (first | exact Drawn0.refl _ | apply Drawn0.step)⟩

/-! ### chamberlainref09_Same: function 30 -/
def chamberlainref09_Same.l0 : Nat → List (S66) → List (S66) → Int → Option (Bool)
  | 0, _, _, _ => none
  | k + 1, x0, x1, x5 => if x5 < (x0.length : Int) then (if 0 ≤ x5 then (if x5 < (x1.length : Int) then (if (!(((rd_T66 x0 x5).f0) == ((rd_T66 x1 x5).f0)) || (!(((rd_T66 x0 x5).f1) == ((rd_T66 x1 x5).f1)) || (!(((rd_T66 x0 x5).f2) == ((rd_T66 x1 x5).f2)) || (!(((rd_T66 x0 x5).f3) == ((rd_T66 x1 x5).f3)) || (!(((rd_T66 x0 x5).f4) == ((rd_T66 x1 x5).f4)) || (!(((rd_T66 x0 x5).f5) == ((rd_T66 x1 x5).f5)) || (!(((rd_T66 x0 x5).f6) == ((rd_T66 x1 x5).f6)) || (!(((rd_T66 x0 x5).f7) == ((rd_T66 x1 x5).f7)) || (!(((rd_T66 x0 x5).f8) == ((rd_T66 x1 x5).f8))))))))))) = true then (some false) else (chamberlainref09_Same.l0 k x0 x1 (wrap64 (x5 + 1)))) else (none)) else (none)) else (some true)
def chamberlainref09_Same.f (k : Nat) (l0 : List (S66)) (l1 : List (S66)) : Option (Bool) := if (l0.length : Int) = (l1.length : Int) then (chamberlainref09_Same.l0 k l0 l1 0) else (some false)
theorem chamberlainref09_Same.mono_l : ∀ k, (∀ y0 y1 y2, LeO (chamberlainref09_Same.l0 k y0 y1 y2) (chamberlainref09_Same.l0 (k + 1) y0 y1 y2))
  | 0 => fun _ _ _ r h => by simp [chamberlainref09_Same.l0] at h
  | k + 1 => by
    have ih0 := chamberlainref09_Same.mono_l k
    · intro y0 y1 y2
      unfold chamberlainref09_Same.l0
      repeat' first
      | (with_reducible exact ih0 _ _ _)
      | (with_reducible exact LeO.refl _)
      | (with_reducible exact LeO.none _)
      | (with_reducible refine LeO.ite ?_ ?_)
      | (with_reducible refine LeO.bind ?_ (fun _ => ?_))
      | exact ih0 _ _ _
      | exact LeO.none _
      | refine LeO.ite ?_ ?_
      | refine LeO.bind ?_ (fun _ => ?_)
theorem chamberlainref09_Same.mono : ∀ a0 a1 k, LeO (chamberlainref09_Same.f k a0 a1) (chamberlainref09_Same.f (k + 1) a0 a1) := by
  intro a0 a1 k
  have ih0 := chamberlainref09_Same.mono_l k
  unfold chamberlainref09_Same.f
  repeat' first
      | (with_reducible exact ih0 _ _ _)
      | (with_reducible exact LeO.refl _)
      | (with_reducible exact LeO.none _)
      | (with_reducible refine LeO.ite ?_ ?_)
      | (with_reducible refine LeO.bind ?_ (fun _ => ?_))
      | exact ih0 _ _ _
      | exact LeO.none _
      | refine LeO.ite ?_ ?_
      | refine LeO.bind ?_ (fun _ => ?_)
set_option maxHeartbeats 8000000 in
set_option maxRecDepth 100000 in
theorem chamberlainref09_Same.calls (k : Nat) (A0 : Option Addr) (c0 : Nat) (l0 : List (S66)) (A1 : Option Addr) (c1 : Nat) (l1 : List (S66)) (r : Bool) (w : World) (hr0 : Kd.C k66 w A0 l0.length l0) (hc0 : l0.length ≤ c0) (hr1 : Kd.C k66 w A1 l1.length l1) (hc1 : l1.length ≤ c1) (h : chamberlainref09_Same.f k l0 l1 = some r) :
    Calls Try.prog 30 #[.slice A0 l0.length c0, .slice A1 l1.length c1] w fun e w' => e = .returned (.bool r) ∧ Drawn0 w w' := by
  have hu66 := Try.underlying66
  have HR0 := Aside0.mk hr0
  have HC0 := Aside0.mk hc0
  clear hr0 hc0
  have HR1 := Aside0.mk hr1
  have HC1 := Aside0.mk hc1
  clear hr1 hc1
  have H : (if (l0.length : Int) = (l1.length : Int) then (chamberlainref09_Same.l0 k l0 l1 0) else (some false)) = some r := h
  clear h
  by_cases c3 : (l0.length : Int) = (l1.length : Int)
  · rw [if_pos c3] at H
    have c3b0 : ((l0.length : Int) == (l1.length : Int)) = true := beq_iff_eq.mpr c3
    have c3b1 : ((l0.length : Int) != (l1.length : Int)) = false := bne_eq_false_iff_eq.mpr c3
    have c3b2 : (l0.length == l1.length) = true := by first | simpa using c3 | (simp at c3 ⊢; omega)
    clear c3
    have H' := Aside0.mk H
    clear H
    go_enter Try.func30, Try.ntmps30
    go_wp2
    repeat (go_quiet (fail); try go_wp2)
    go_loopg [5] k (fun kq v5 w' => ∃ (x5_1 : Int), v5 = .int .i64 x5_1 ∧ Aside0 (chamberlainref09_Same.l0 kq l0 l1 x5_1 = some r) ∧ Aside0 (kq ≤ k) ∧ Drawn0 w w')
    case atStart => exact ⟨(0), (by first | rfl | (simp; done) | (simp [*]; done)), H', ⟨Nat.le_refl _⟩, by repeat (first | exact Drawn0.refl _ | apply Drawn0.step)⟩
    case round =>
      clear H'
      try clear c1
      try clear p2
      try clear c3
      try clear c3b0
      try clear c3b1
      try clear c3b2
      obtain ⟨x5_1, rfl, HA, HK1, ⟨m1, rfl⟩⟩ := hrel
      cases gk with
      | zero => exact absurd HA.out (by simp [chamberlainref09_Same.l0])
      | succ k1 =>
        have H := HA.out
        clear HA
        simp only [chamberlainref09_Same.l0] at H
        by_cases c4 : x5_1 < (l0.length : Int)
        · rw [if_pos c4] at H
          have c4b0 : decide (x5_1 < (l0.length : Int)) = true := decide_eq_true c4
          clear c4
          by_cases c5 : 0 ≤ x5_1
          · rw [if_pos c5] at H
            have c5b0 : decide (0 ≤ x5_1) = true := decide_eq_true c5
            clear c5
            by_cases c6 : x5_1 < (l1.length : Int)
            · rw [if_pos c6] at H
              have c6b0 : decide (x5_1 < (l1.length : Int)) = true := decide_eq_true c6
              clear c6
              by_cases c7 : (!(((rd_T66 l0 x5_1).f0) == ((rd_T66 l1 x5_1).f0)) || (!(((rd_T66 l0 x5_1).f1) == ((rd_T66 l1 x5_1).f1)) || (!(((rd_T66 l0 x5_1).f2) == ((rd_T66 l1 x5_1).f2)) || (!(((rd_T66 l0 x5_1).f3) == ((rd_T66 l1 x5_1).f3)) || (!(((rd_T66 l0 x5_1).f4) == ((rd_T66 l1 x5_1).f4)) || (!(((rd_T66 l0 x5_1).f5) == ((rd_T66 l1 x5_1).f5)) || (!(((rd_T66 l0 x5_1).f6) == ((rd_T66 l1 x5_1).f6)) || (!(((rd_T66 l0 x5_1).f7) == ((rd_T66 l1 x5_1).f7)) || (!(((rd_T66 l0 x5_1).f8) == ((rd_T66 l1 x5_1).f8))))))))))) = true
              · rw [if_pos c7] at H
                have c7b0 : (!(((rd_T66 l0 x5_1).f0) == ((rd_T66 l1 x5_1).f0)) || (!(((rd_T66 l0 x5_1).f1) == ((rd_T66 l1 x5_1).f1)) || (!(((rd_T66 l0 x5_1).f2) == ((rd_T66 l1 x5_1).f2)) || (!(((rd_T66 l0 x5_1).f3) == ((rd_T66 l1 x5_1).f3)) || (!(((rd_T66 l0 x5_1).f4) == ((rd_T66 l1 x5_1).f4)) || (!(((rd_T66 l0 x5_1).f5) == ((rd_T66 l1 x5_1).f5)) || (!(((rd_T66 l0 x5_1).f6) == ((rd_T66 l1 x5_1).f6)) || (!(((rd_T66 l0 x5_1).f7) == ((rd_T66 l1 x5_1).f7)) || (!(((rd_T66 l0 x5_1).f8) == ((rd_T66 l1 x5_1).f8))))))))))) = true := c7
                clear c7
                obtain rfl := Option.some.inj H
                have p220 : 0 ≤ (x5_1 : Int) := of_decide_eq_true (by first | (with_reducible assumption) | assumption)
                have q220 : x5_1 < (l0.length : Int) := of_decide_eq_true (by first | (with_reducible assumption) | assumption)
                obtain ⟨ad220, e220, hx220_0, hx220_1, hx220_2, hx220_3, hx220_4, hx220_5, hx220_6, hx220_7, hx220_8⟩ := at_T66 HR0.out x5_1 p220 q220
                cases e220
                replace p220 := eq_true p220
                replace q220 := eq_true q220
                have p221 : 0 ≤ (x5_1 : Int) := of_decide_eq_true (by first | (with_reducible assumption) | assumption)
                have q221 : x5_1 < (l1.length : Int) := of_decide_eq_true (by first | (with_reducible assumption) | assumption)
                obtain ⟨ad221, e221, hx221_0, hx221_1, hx221_2, hx221_3, hx221_4, hx221_5, hx221_6, hx221_7, hx221_8⟩ := at_T66 HR1.out x5_1 p221 q221
                cases e221
                replace p221 := eq_true p221
                replace q221 := eq_true q221
                go_wp2
                repeat (go_quiet (fail); try go_wp2)
                go_ret
                exact ⟨by first | rfl | (simp; done) | (simp [*]; done), by repeat (first | exact Drawn0.refl _ | apply Drawn0.step)⟩
              · rw [if_neg c7] at H
                have c7b0 : (!(((rd_T66 l0 x5_1).f0) == ((rd_T66 l1 x5_1).f0)) || (!(((rd_T66 l0 x5_1).f1) == ((rd_T66 l1 x5_1).f1)) || (!(((rd_T66 l0 x5_1).f2) == ((rd_T66 l1 x5_1).f2)) || (!(((rd_T66 l0 x5_1).f3) == ((rd_T66 l1 x5_1).f3)) || (!(((rd_T66 l0 x5_1).f4) == ((rd_T66 l1 x5_1).f4)) || (!(((rd_T66 l0 x5_1).f5) == ((rd_T66 l1 x5_1).f5)) || (!(((rd_T66 l0 x5_1).f6) == ((rd_T66 l1 x5_1).f6)) || (!(((rd_T66 l0 x5_1).f7) == ((rd_T66 l1 x5_1).f7)) || (!(((rd_T66 l0 x5_1).f8) == ((rd_T66 l1 x5_1).f8))))))))))) = false := by simpa using c7
                clear c7
                have H' := Aside0.mk H
                clear H
                have p220 : 0 ≤ (x5_1 : Int) := of_decide_eq_true (by first | (with_reducible assumption) | assumption)
                have q220 : x5_1 < (l0.length : Int) := of_decide_eq_true (by first | (with_reducible assumption) | assumption)
                obtain ⟨ad220, e220, hx220_0, hx220_1, hx220_2, hx220_3, hx220_4, hx220_5, hx220_6, hx220_7, hx220_8⟩ := at_T66 HR0.out x5_1 p220 q220
                cases e220
                replace p220 := eq_true p220
                replace q220 := eq_true q220
                have p221 : 0 ≤ (x5_1 : Int) := of_decide_eq_true (by first | (with_reducible assumption) | assumption)
                have q221 : x5_1 < (l1.length : Int) := of_decide_eq_true (by first | (with_reducible assumption) | assumption)
                obtain ⟨ad221, e221, hx221_0, hx221_1, hx221_2, hx221_3, hx221_4, hx221_5, hx221_6, hx221_7, hx221_8⟩ := at_T66 HR1.out x5_1 p221 q221
                cases e221
                replace p221 := eq_true p221
                replace q221 := eq_true q221
                go_wp2
                repeat (go_quiet (fail); try go_wp2)
                go_roundg k1
                case measure => have := HK1.out; omega
                case rel => exact ⟨(wrap64 (x5_1 + 1)), (by first | rfl | (simp; done) | (simp [*]; done)), H', ⟨by have := HK1.out; omega⟩, by repeat (first | exact Drawn0.refl _ | apply Drawn0.step)⟩
            · rw [if_neg c6] at H
              exact absurd H (by simp)
          · rw [if_neg c5] at H
            exact absurd H (by simp)
        · rw [if_neg c4] at H
          have c4b0 : decide (x5_1 < (l0.length : Int)) = false := decide_eq_false c4
          clear c4
          obtain rfl := Option.some.inj H
          go_wp2
          repeat (go_quiet (fail); try go_wp2)
          go_ret
          exact ⟨by first | rfl | (simp; done) | (simp [*]; done), by repeat (first | exact Drawn0.refl _ | apply Drawn0.step)⟩
  · rw [if_neg c3] at H
    have c3b0 : ((l0.length : Int) == (l1.length : Int)) = false := beq_eq_false_iff_ne.mpr c3
    have c3b1 : ((l0.length : Int) != (l1.length : Int)) = true := bne_iff_ne.mpr c3
    have c3b2 : (l0.length == l1.length) = false := by first | simpa using c3 | (simp at c3 ⊢; omega)
    obtain rfl := Option.some.inj H
    go_enter Try.func30, Try.ntmps30
    go_wp2
    repeat (go_quiet (fail); try go_wp2)
    go_ret
    exact ⟨by first | rfl | (simp; done) | (simp [*]; done), by repeat (first | exact Drawn0.refl _ | apply Drawn0.step)⟩

/-! ### chamberlainref10_One: function 20 -/
def chamberlainref10_One.f (k : Nat) (a0_0 : Int) (a0_1 : Int) (a0_2 : Int) (l0_3 : List Int) (l0_4 : List (S66)) (a0_5 : Bool) (a1_0 : Int) (a1_1 : Int) (a1_2 : Int) (l1_3 : List Int) (l1_4 : List (S66)) (a1_5 : Bool) : Option (Bool) := if a0_0 = a1_0 then (if a0_1 = a1_1 then (if a0_2 = a1_2 then (if (a0_5 == a1_5) = true then ((chamberlainref01_Same.f k l0_3 l1_3).bind fun t224 => (if t224 = true then ((chamberlainref09_Same.f k l0_4 l1_4).bind fun t225 => (some t225)) else (some false))) else (some false)) else (some false)) else (some false)) else (some false)
theorem chamberlainref10_One.mono : ∀ a0 a1 a2 a3 a4 a5 a6 a7 a8 a9 a10 a11 k, LeO (chamberlainref10_One.f k a0 a1 a2 a3 a4 a5 a6 a7 a8 a9 a10 a11) (chamberlainref10_One.f (k + 1) a0 a1 a2 a3 a4 a5 a6 a7 a8 a9 a10 a11) := by
  intro a0 a1 a2 a3 a4 a5 a6 a7 a8 a9 a10 a11 k
  unfold chamberlainref10_One.f
  repeat' first
      | (with_reducible exact chamberlainref01_Same.mono _ _ _)
      | (with_reducible exact chamberlainref09_Same.mono _ _ _)
      | (with_reducible exact LeO.refl _)
      | (with_reducible exact LeO.none _)
      | (with_reducible refine LeO.ite ?_ ?_)
      | (with_reducible refine LeO.bind ?_ (fun _ => ?_))
      | exact chamberlainref01_Same.mono _ _ _
      | exact chamberlainref09_Same.mono _ _ _
      | exact LeO.none _
      | refine LeO.ite ?_ ?_
      | refine LeO.bind ?_ (fun _ => ?_)
set_option maxHeartbeats 8000000 in
set_option maxRecDepth 100000 in
theorem chamberlainref10_One.calls (k : Nat) (a0_0 : Int) (a0_1 : Int) (a0_2 : Int) (A0_3 : Option Addr) (c0_3 : Nat) (l0_3 : List Int) (A0_4 : Option Addr) (c0_4 : Nat) (l0_4 : List (S66)) (a0_5 : Bool) (a1_0 : Int) (a1_1 : Int) (a1_2 : Int) (A1_3 : Option Addr) (c1_3 : Nat) (l1_3 : List Int) (A1_4 : Option Addr) (c1_4 : Nat) (l1_4 : List (S66)) (a1_5 : Bool) (r : Bool) (w : World) (hr0_3 : Kd.C (Kd.int .u32) w A0_3 l0_3.length l0_3) (hc0_3 : l0_3.length ≤ c0_3) (hr0_4 : Kd.C k66 w A0_4 l0_4.length l0_4) (hc0_4 : l0_4.length ≤ c0_4) (hr1_3 : Kd.C (Kd.int .u32) w A1_3 l1_3.length l1_3) (hc1_3 : l1_3.length ≤ c1_3) (hr1_4 : Kd.C k66 w A1_4 l1_4.length l1_4) (hc1_4 : l1_4.length ≤ c1_4) (h : chamberlainref10_One.f k a0_0 a0_1 a0_2 l0_3 l0_4 a0_5 a1_0 a1_1 a1_2 l1_3 l1_4 a1_5 = some r) :
    Calls Try.prog 20 #[.agg #[.int .u32 a0_0, .int .u32 a0_1, .int .u32 a0_2, .slice A0_3 l0_3.length c0_3, .slice A0_4 l0_4.length c0_4, .bool a0_5], .agg #[.int .u32 a1_0, .int .u32 a1_1, .int .u32 a1_2, .slice A1_3 l1_3.length c1_3, .slice A1_4 l1_4.length c1_4, .bool a1_5]] w fun e w' => e = .returned (.bool r) ∧ Below w.heap.size w w' := by
  have hu39 := Try.underlying39
  have HR0_3 := Aside0.mk hr0_3
  have HC0_3 := Aside0.mk hc0_3
  clear hr0_3 hc0_3
  have HR0_4 := Aside0.mk hr0_4
  have HC0_4 := Aside0.mk hc0_4
  clear hr0_4 hc0_4
  have HR1_3 := Aside0.mk hr1_3
  have HC1_3 := Aside0.mk hc1_3
  clear hr1_3 hc1_3
  have HR1_4 := Aside0.mk hr1_4
  have HC1_4 := Aside0.mk hc1_4
  clear hr1_4 hc1_4
  have HB := Aside0.mk (Below.refl w.heap.size w)
  have H : (if a0_0 = a1_0 then (if a0_1 = a1_1 then (if a0_2 = a1_2 then (if (a0_5 == a1_5) = true then ((chamberlainref01_Same.f k l0_3 l1_3).bind fun t224 => (if t224 = true then ((chamberlainref09_Same.f k l0_4 l1_4).bind fun t225 => (some t225)) else (some false))) else (some false)) else (some false)) else (some false)) else (some false)) = some r := h
  clear h
  by_cases c3 : a0_0 = a1_0
  · rw [if_pos c3] at H
    have c3b0 : (a0_0 == a1_0) = true := beq_iff_eq.mpr c3
    have c3b1 : (a0_0 != a1_0) = false := bne_eq_false_iff_eq.mpr c3
    clear c3
    by_cases c4 : a0_1 = a1_1
    · rw [if_pos c4] at H
      have c4b0 : (a0_1 == a1_1) = true := beq_iff_eq.mpr c4
      have c4b1 : (a0_1 != a1_1) = false := bne_eq_false_iff_eq.mpr c4
      clear c4
      by_cases c5 : a0_2 = a1_2
      · rw [if_pos c5] at H
        have c5b0 : (a0_2 == a1_2) = true := beq_iff_eq.mpr c5
        have c5b1 : (a0_2 != a1_2) = false := bne_eq_false_iff_eq.mpr c5
        clear c5
        by_cases c6 : (a0_5 == a1_5) = true
        · rw [if_pos c6] at H
          have c6b0 : (a0_5 == a1_5) = true := c6
          (try (have c6b1 : decide (a0_5 = a1_5) = true := by simpa using c6))
          (try (have c6b2 : (a0_5 == a1_5) = true := by simpa using c6))
          clear c6
          replace H := Option.bind_eq_some_iff.mp H
          obtain ⟨t224, A70, H⟩ := H
          replace H : (if t224 = true then ((chamberlainref09_Same.f k l0_4 l1_4).bind fun t225 => (some t225)) else (some false)) = some r := H
          have A7 := Aside0.mk A70
          clear A70
          by_cases c8 : t224 = true
          · subst c8
            have H1 : ((chamberlainref09_Same.f k l0_4 l1_4).bind fun t225 => (some t225)) = some r := by rw [if_pos rfl] at H; exact H
            clear H
            have H := H1
            clear H1
            replace H := Option.bind_eq_some_iff.mp H
            obtain ⟨t225, A90, H⟩ := H
            replace H : (some t225) = some r := H
            have A9 := Aside0.mk A90
            clear A90
            obtain rfl := Option.some.inj H
            go_enter Try.func20, Try.ntmps20
            go_wp2_with (first | ((with_reducible refine gate_dst (N := 2) rfl ?_); refine box_event ?hg (N := 2) ?hd (cs := #[.int .u32 a0_0, .int .u32 a0_1, .int .u32 a0_2, .slice A0_3 l0_3.length c0_3, .slice A0_4 l0_4.length c0_4, .bool a0_5]) (t := 39) ?hr ?_; (case hd => rfl); (case hg => rfl); (case hr => first | (go_simp; done) | (go_simp; rfl)); intro gb222 hg w10 hbox hb; have n0_ := Aside0.mk (below_step (by repeat (first | (with_reducible first | exact HB.out | apply below_alloc | apply pw_below_drewN | apply below_drew1) | exact HB.out)) hb); have n1_ := Aside0.mk (hbox); have n2_ := Aside0.mk ((by rw [hg]; exact (below_size (by repeat (first | (with_reducible first | exact HB.out | apply below_alloc | apply pw_below_drewN | apply below_drew1) | exact HB.out))) : w.heap.size ≤ gb222)); have n3_ := Aside0.mk ((by rw [hg]; exact (below_size (by repeat (first | (with_reducible first | exact HB.out | apply below_alloc | apply pw_below_drewN | apply below_drew1) | exact HB.out))) : w.heap.size ≤ gb222)); clear HB; have HB := n0_; have BK222 := n1_; have GW222 := n2_; have GE222 := n3_; clear n0_ n1_ n2_ n3_; clear hb hbox hg) | ((with_reducible refine gate_dst (N := 3) rfl ?_); refine box_event ?hg (N := 3) ?hd (cs := #[.int .u32 a1_0, .int .u32 a1_1, .int .u32 a1_2, .slice A1_3 l1_3.length c1_3, .slice A1_4 l1_4.length c1_4, .bool a1_5]) (t := 39) ?hr ?_; (case hd => rfl); (case hg => rfl); (case hr => first | (go_simp; done) | (go_simp; rfl)); intro gb223 hg w11 hbox hb; have n0_ := Aside0.mk (blk_below (g := gb222) (o := .cells #[.int .u32 a0_0, .int .u32 a0_1, .int .u32 a0_2, .slice A0_3 l0_3.length c0_3, .slice A0_4 l0_4.length c0_4, .bool a0_5] 39 (0, 0)) (by (with_reducible repeat (first | refine blk_drewN ?_ _ | refine blk_drew ?_ | refine blk_alloc ?_ _)); exact BK222.out) hb); have n1_ := Aside0.mk (below_step (by repeat (first | (with_reducible first | exact HB.out | apply below_alloc | apply pw_below_drewN | apply below_drew1 | refine below_set ?_ GE222.out) | exact HB.out)) hb); have n2_ := Aside0.mk (hbox); have n3_ := Aside0.mk ((by rw [hg]; exact (below_size (by repeat (first | (with_reducible first | exact HB.out | apply below_alloc | apply pw_below_drewN | apply below_drew1 | refine below_set ?_ GE222.out) | exact HB.out))) : w.heap.size ≤ gb223)); have n4_ := Aside0.mk ((by rw [hg]; exact (below_size (by repeat (first | (with_reducible first | exact HB.out | apply below_alloc | apply pw_below_drewN | apply below_drew1 | refine below_set ?_ GE222.out) | exact HB.out))) : w.heap.size ≤ gb223)); have n5_ := Aside0.mk ((by rw [hg]; exact Nat.ne_of_lt (blk_lt (g := gb222) (o := .cells #[.int .u32 a0_0, .int .u32 a0_1, .int .u32 a0_2, .slice A0_3 l0_3.length c0_3, .slice A0_4 l0_4.length c0_4, .bool a0_5] 39 (0, 0)) (by (with_reducible repeat (first | refine blk_drewN ?_ _ | refine blk_drew ?_ | refine blk_alloc ?_ _)); exact BK222.out)) : gb222 ≠ gb223)); have n6_ := Aside0.mk ((by rw [hg]; exact Nat.ne_of_gt (blk_lt (g := gb222) (o := .cells #[.int .u32 a0_0, .int .u32 a0_1, .int .u32 a0_2, .slice A0_3 l0_3.length c0_3, .slice A0_4 l0_4.length c0_4, .bool a0_5] 39 (0, 0)) (by (with_reducible repeat (first | refine blk_drewN ?_ _ | refine blk_drew ?_ | refine blk_alloc ?_ _)); exact BK222.out)) : gb223 ≠ gb222)); clear BK222; clear HB; have BK222 := n0_; have HB := n1_; have BK223 := n2_; have GW223 := n3_; have GE223 := n4_; have NB222_223 := n5_; have NB223_222 := n6_; clear n0_ n1_ n2_ n3_ n4_ n5_ n6_; clear hb hbox hg; have hnb12 := NB222_223.out; have hnc12 := NB223_222.out; have hcz13_0 : w11.cell? ⟨gb222, 0, none⟩ = some (.int .u32 a0_0) := (blk_cell BK222.out 0).trans rfl; have hcz13_1 : w11.cell? ⟨gb222, 1, none⟩ = some (.int .u32 a0_1) := (blk_cell BK222.out 1).trans rfl; have hcz13_2 : w11.cell? ⟨gb222, 2, none⟩ = some (.int .u32 a0_2) := (blk_cell BK222.out 2).trans rfl; have hcz13_3 : w11.cell? ⟨gb222, 3, none⟩ = some (.slice A0_3 l0_3.length c0_3) := (blk_cell BK222.out 3).trans rfl; have hcz13_4 : w11.cell? ⟨gb222, 4, none⟩ = some (.slice A0_4 l0_4.length c0_4) := (blk_cell BK222.out 4).trans rfl; have hcz13_5 : w11.cell? ⟨gb222, 5, none⟩ = some (.bool a0_5) := (blk_cell BK222.out 5).trans rfl; have hfz13_0 := blk_frozen BK222.out 0; have hfz13_1 := blk_frozen BK222.out 1; have hfz13_2 := blk_frozen BK222.out 2; have hfz13_3 := blk_frozen BK222.out 3; have hfz13_4 := blk_frozen BK222.out 4; have hfz13_5 := blk_frozen BK222.out 5; have hcz14_0 : w11.cell? ⟨gb223, 0, none⟩ = some (.int .u32 a1_0) := (blk_cell BK223.out 0).trans rfl; have hcz14_1 : w11.cell? ⟨gb223, 1, none⟩ = some (.int .u32 a1_1) := (blk_cell BK223.out 1).trans rfl; have hcz14_2 : w11.cell? ⟨gb223, 2, none⟩ = some (.int .u32 a1_2) := (blk_cell BK223.out 2).trans rfl; have hcz14_3 : w11.cell? ⟨gb223, 3, none⟩ = some (.slice A1_3 l1_3.length c1_3) := (blk_cell BK223.out 3).trans rfl; have hcz14_4 : w11.cell? ⟨gb223, 4, none⟩ = some (.slice A1_4 l1_4.length c1_4) := (blk_cell BK223.out 4).trans rfl; have hcz14_5 : w11.cell? ⟨gb223, 5, none⟩ = some (.bool a1_5) := (blk_cell BK223.out 5).trans rfl; have hfz14_0 := blk_frozen BK223.out 0; have hfz14_1 := blk_frozen BK223.out 1; have hfz14_2 := blk_frozen BK223.out 2; have hfz14_3 := blk_frozen BK223.out 3; have hfz14_4 := blk_frozen BK223.out 4; have hfz14_5 := blk_frozen BK223.out 5) | (go_at_call 26; (with_reducible refine (chamberlainref01_Same.calls k _ _ l0_3 _ _ l1_3 true _ ?side1 ?side2 ?side3 ?side4 A7.out).mono ?_); (case side1 => repeat (first | exact (Kd.C_below HR0_3.out HB.out) | (with_reducible refine Kd.C_alloc ?_ _) | (with_reducible refine Kd.C_drewN ?_ _) | (with_reducible refine Kd.C_drew ?_))); (case side2 => exact HC0_3.out); (case side3 => repeat (first | exact (Kd.C_below HR1_3.out HB.out) | (with_reducible refine Kd.C_alloc ?_ _) | (with_reducible refine Kd.C_drewN ?_ _) | (with_reducible refine Kd.C_drew ?_))); (case side4 => exact HC1_3.out); rintro e w' ⟨rfl, ⟨nd, rfl⟩⟩) | (go_at_call 30; (with_reducible refine (chamberlainref09_Same.calls k _ _ l0_4 _ _ l1_4 t225 _ ?side1 ?side2 ?side3 ?side4 A9.out).mono ?_); (case side1 => repeat (first | exact (Kd.C_below HR0_4.out (by repeat (first | (with_reducible first | exact HB.out | apply below_alloc | apply pw_below_drewN | apply below_drew1 | refine below_set ?_ GE222.out | refine below_set ?_ GE223.out) | exact HB.out))) | (with_reducible refine Kd.C_alloc ?_ _) | (with_reducible refine Kd.C_drewN ?_ _) | (with_reducible refine Kd.C_drew ?_))); (case side2 => exact HC0_4.out); (case side3 => repeat (first | exact (Kd.C_below HR1_4.out (by repeat (first | (with_reducible first | exact HB.out | apply below_alloc | apply pw_below_drewN | apply below_drew1 | refine below_set ?_ GE222.out | refine below_set ?_ GE223.out) | exact HB.out))) | (with_reducible refine Kd.C_alloc ?_ _) | (with_reducible refine Kd.C_drewN ?_ _) | (with_reducible refine Kd.C_drew ?_))); (case side4 => exact HC1_4.out); rintro e w' ⟨rfl, ⟨nd, rfl⟩⟩))
            go_ret
            exact ⟨by first | rfl | (simp [errW_none, errW_some] <;> rfl) | (simp [*, errW_none, errW_some] <;> rfl), by repeat (first | (with_reducible first | exact HB.out | apply below_alloc | apply pw_below_drewN | apply below_drew1 | refine below_set ?_ GE222.out | refine below_set ?_ GE223.out) | exact HB.out)⟩
          · replace c8 := Bool.eq_false_iff.mpr c8
            subst c8
            have H1 : (some false) = some r := by rw [if_neg (show ¬ (false = true) by decide)] at H; exact H
            clear H
            have H := H1
            clear H1
            obtain rfl := Option.some.inj H
            go_enter Try.func20, Try.ntmps20
            go_wp2_with (first | ((with_reducible refine gate_dst (N := 2) rfl ?_); refine box_event ?hg (N := 2) ?hd (cs := #[.int .u32 a0_0, .int .u32 a0_1, .int .u32 a0_2, .slice A0_3 l0_3.length c0_3, .slice A0_4 l0_4.length c0_4, .bool a0_5]) (t := 39) ?hr ?_; (case hd => rfl); (case hg => rfl); (case hr => first | (go_simp; done) | (go_simp; rfl)); intro gb222 hg w15 hbox hb; have n0_ := Aside0.mk (below_step (by repeat (first | (with_reducible first | exact HB.out | apply below_alloc | apply pw_below_drewN | apply below_drew1) | exact HB.out)) hb); have n1_ := Aside0.mk (hbox); have n2_ := Aside0.mk ((by rw [hg]; exact (below_size (by repeat (first | (with_reducible first | exact HB.out | apply below_alloc | apply pw_below_drewN | apply below_drew1) | exact HB.out))) : w.heap.size ≤ gb222)); have n3_ := Aside0.mk ((by rw [hg]; exact (below_size (by repeat (first | (with_reducible first | exact HB.out | apply below_alloc | apply pw_below_drewN | apply below_drew1) | exact HB.out))) : w.heap.size ≤ gb222)); clear HB; have HB := n0_; have BK222 := n1_; have GW222 := n2_; have GE222 := n3_; clear n0_ n1_ n2_ n3_; clear hb hbox hg) | ((with_reducible refine gate_dst (N := 3) rfl ?_); refine box_event ?hg (N := 3) ?hd (cs := #[.int .u32 a1_0, .int .u32 a1_1, .int .u32 a1_2, .slice A1_3 l1_3.length c1_3, .slice A1_4 l1_4.length c1_4, .bool a1_5]) (t := 39) ?hr ?_; (case hd => rfl); (case hg => rfl); (case hr => first | (go_simp; done) | (go_simp; rfl)); intro gb223 hg w16 hbox hb; have n0_ := Aside0.mk (blk_below (g := gb222) (o := .cells #[.int .u32 a0_0, .int .u32 a0_1, .int .u32 a0_2, .slice A0_3 l0_3.length c0_3, .slice A0_4 l0_4.length c0_4, .bool a0_5] 39 (0, 0)) (by (with_reducible repeat (first | refine blk_drewN ?_ _ | refine blk_drew ?_ | refine blk_alloc ?_ _)); exact BK222.out) hb); have n1_ := Aside0.mk (below_step (by repeat (first | (with_reducible first | exact HB.out | apply below_alloc | apply pw_below_drewN | apply below_drew1 | refine below_set ?_ GE222.out) | exact HB.out)) hb); have n2_ := Aside0.mk (hbox); have n3_ := Aside0.mk ((by rw [hg]; exact (below_size (by repeat (first | (with_reducible first | exact HB.out | apply below_alloc | apply pw_below_drewN | apply below_drew1 | refine below_set ?_ GE222.out) | exact HB.out))) : w.heap.size ≤ gb223)); have n4_ := Aside0.mk ((by rw [hg]; exact (below_size (by repeat (first | (with_reducible first | exact HB.out | apply below_alloc | apply pw_below_drewN | apply below_drew1 | refine below_set ?_ GE222.out) | exact HB.out))) : w.heap.size ≤ gb223)); have n5_ := Aside0.mk ((by rw [hg]; exact Nat.ne_of_lt (blk_lt (g := gb222) (o := .cells #[.int .u32 a0_0, .int .u32 a0_1, .int .u32 a0_2, .slice A0_3 l0_3.length c0_3, .slice A0_4 l0_4.length c0_4, .bool a0_5] 39 (0, 0)) (by (with_reducible repeat (first | refine blk_drewN ?_ _ | refine blk_drew ?_ | refine blk_alloc ?_ _)); exact BK222.out)) : gb222 ≠ gb223)); have n6_ := Aside0.mk ((by rw [hg]; exact Nat.ne_of_gt (blk_lt (g := gb222) (o := .cells #[.int .u32 a0_0, .int .u32 a0_1, .int .u32 a0_2, .slice A0_3 l0_3.length c0_3, .slice A0_4 l0_4.length c0_4, .bool a0_5] 39 (0, 0)) (by (with_reducible repeat (first | refine blk_drewN ?_ _ | refine blk_drew ?_ | refine blk_alloc ?_ _)); exact BK222.out)) : gb223 ≠ gb222)); clear BK222; clear HB; have BK222 := n0_; have HB := n1_; have BK223 := n2_; have GW223 := n3_; have GE223 := n4_; have NB222_223 := n5_; have NB223_222 := n6_; clear n0_ n1_ n2_ n3_ n4_ n5_ n6_; clear hb hbox hg; have hnb17 := NB222_223.out; have hnc17 := NB223_222.out; have hcz18_0 : w16.cell? ⟨gb222, 0, none⟩ = some (.int .u32 a0_0) := (blk_cell BK222.out 0).trans rfl; have hcz18_1 : w16.cell? ⟨gb222, 1, none⟩ = some (.int .u32 a0_1) := (blk_cell BK222.out 1).trans rfl; have hcz18_2 : w16.cell? ⟨gb222, 2, none⟩ = some (.int .u32 a0_2) := (blk_cell BK222.out 2).trans rfl; have hcz18_3 : w16.cell? ⟨gb222, 3, none⟩ = some (.slice A0_3 l0_3.length c0_3) := (blk_cell BK222.out 3).trans rfl; have hcz18_4 : w16.cell? ⟨gb222, 4, none⟩ = some (.slice A0_4 l0_4.length c0_4) := (blk_cell BK222.out 4).trans rfl; have hcz18_5 : w16.cell? ⟨gb222, 5, none⟩ = some (.bool a0_5) := (blk_cell BK222.out 5).trans rfl; have hfz18_0 := blk_frozen BK222.out 0; have hfz18_1 := blk_frozen BK222.out 1; have hfz18_2 := blk_frozen BK222.out 2; have hfz18_3 := blk_frozen BK222.out 3; have hfz18_4 := blk_frozen BK222.out 4; have hfz18_5 := blk_frozen BK222.out 5; have hcz19_0 : w16.cell? ⟨gb223, 0, none⟩ = some (.int .u32 a1_0) := (blk_cell BK223.out 0).trans rfl; have hcz19_1 : w16.cell? ⟨gb223, 1, none⟩ = some (.int .u32 a1_1) := (blk_cell BK223.out 1).trans rfl; have hcz19_2 : w16.cell? ⟨gb223, 2, none⟩ = some (.int .u32 a1_2) := (blk_cell BK223.out 2).trans rfl; have hcz19_3 : w16.cell? ⟨gb223, 3, none⟩ = some (.slice A1_3 l1_3.length c1_3) := (blk_cell BK223.out 3).trans rfl; have hcz19_4 : w16.cell? ⟨gb223, 4, none⟩ = some (.slice A1_4 l1_4.length c1_4) := (blk_cell BK223.out 4).trans rfl; have hcz19_5 : w16.cell? ⟨gb223, 5, none⟩ = some (.bool a1_5) := (blk_cell BK223.out 5).trans rfl; have hfz19_0 := blk_frozen BK223.out 0; have hfz19_1 := blk_frozen BK223.out 1; have hfz19_2 := blk_frozen BK223.out 2; have hfz19_3 := blk_frozen BK223.out 3; have hfz19_4 := blk_frozen BK223.out 4; have hfz19_5 := blk_frozen BK223.out 5) | (go_at_call 26; (with_reducible refine (chamberlainref01_Same.calls k _ _ l0_3 _ _ l1_3 false _ ?side1 ?side2 ?side3 ?side4 A7.out).mono ?_); (case side1 => repeat (first | exact (Kd.C_below HR0_3.out HB.out) | (with_reducible refine Kd.C_alloc ?_ _) | (with_reducible refine Kd.C_drewN ?_ _) | (with_reducible refine Kd.C_drew ?_))); (case side2 => exact HC0_3.out); (case side3 => repeat (first | exact (Kd.C_below HR1_3.out HB.out) | (with_reducible refine Kd.C_alloc ?_ _) | (with_reducible refine Kd.C_drewN ?_ _) | (with_reducible refine Kd.C_drew ?_))); (case side4 => exact HC1_3.out); rintro e w' ⟨rfl, ⟨nd, rfl⟩⟩))
            go_ret
            exact ⟨by first | rfl | (simp [errW_none, errW_some] <;> rfl) | (simp [*, errW_none, errW_some] <;> rfl), by repeat (first | (with_reducible first | exact HB.out | apply below_alloc | apply pw_below_drewN | apply below_drew1 | refine below_set ?_ GE222.out | refine below_set ?_ GE223.out) | exact HB.out)⟩
        · rw [if_neg c6] at H
          have c6b0 : (a0_5 == a1_5) = false := by simpa using c6
          (try (have c6b1 : decide (a0_5 = a1_5) = false := by simpa using c6))
          (try (have c6b2 : (a0_5 == a1_5) = false := by simpa using c6))
          (try (have c6b3 : ¬ (a0_5 = a1_5) := by simpa using c6))
          clear c6
          obtain rfl := Option.some.inj H
          go_enter Try.func20, Try.ntmps20
          go_wp2_with (first | ((with_reducible refine gate_dst (N := 2) rfl ?_); refine box_event ?hg (N := 2) ?hd (cs := #[.int .u32 a0_0, .int .u32 a0_1, .int .u32 a0_2, .slice A0_3 l0_3.length c0_3, .slice A0_4 l0_4.length c0_4, .bool a0_5]) (t := 39) ?hr ?_; (case hd => rfl); (case hg => rfl); (case hr => first | (go_simp; done) | (go_simp; rfl)); intro gb222 hg w20 hbox hb; have n0_ := Aside0.mk (below_step (by repeat (first | (with_reducible first | exact HB.out | apply below_alloc | apply pw_below_drewN | apply below_drew1) | exact HB.out)) hb); have n1_ := Aside0.mk (hbox); have n2_ := Aside0.mk ((by rw [hg]; exact (below_size (by repeat (first | (with_reducible first | exact HB.out | apply below_alloc | apply pw_below_drewN | apply below_drew1) | exact HB.out))) : w.heap.size ≤ gb222)); have n3_ := Aside0.mk ((by rw [hg]; exact (below_size (by repeat (first | (with_reducible first | exact HB.out | apply below_alloc | apply pw_below_drewN | apply below_drew1) | exact HB.out))) : w.heap.size ≤ gb222)); clear HB; have HB := n0_; have BK222 := n1_; have GW222 := n2_; have GE222 := n3_; clear n0_ n1_ n2_ n3_; clear hb hbox hg) | ((with_reducible refine gate_dst (N := 3) rfl ?_); refine box_event ?hg (N := 3) ?hd (cs := #[.int .u32 a1_0, .int .u32 a1_1, .int .u32 a1_2, .slice A1_3 l1_3.length c1_3, .slice A1_4 l1_4.length c1_4, .bool a1_5]) (t := 39) ?hr ?_; (case hd => rfl); (case hg => rfl); (case hr => first | (go_simp; done) | (go_simp; rfl)); intro gb223 hg w21 hbox hb; have n0_ := Aside0.mk (blk_below (g := gb222) (o := .cells #[.int .u32 a0_0, .int .u32 a0_1, .int .u32 a0_2, .slice A0_3 l0_3.length c0_3, .slice A0_4 l0_4.length c0_4, .bool a0_5] 39 (0, 0)) (by (with_reducible repeat (first | refine blk_drewN ?_ _ | refine blk_drew ?_ | refine blk_alloc ?_ _)); exact BK222.out) hb); have n1_ := Aside0.mk (below_step (by repeat (first | (with_reducible first | exact HB.out | apply below_alloc | apply pw_below_drewN | apply below_drew1 | refine below_set ?_ GE222.out) | exact HB.out)) hb); have n2_ := Aside0.mk (hbox); have n3_ := Aside0.mk ((by rw [hg]; exact (below_size (by repeat (first | (with_reducible first | exact HB.out | apply below_alloc | apply pw_below_drewN | apply below_drew1 | refine below_set ?_ GE222.out) | exact HB.out))) : w.heap.size ≤ gb223)); have n4_ := Aside0.mk ((by rw [hg]; exact (below_size (by repeat (first | (with_reducible first | exact HB.out | apply below_alloc | apply pw_below_drewN | apply below_drew1 | refine below_set ?_ GE222.out) | exact HB.out))) : w.heap.size ≤ gb223)); have n5_ := Aside0.mk ((by rw [hg]; exact Nat.ne_of_lt (blk_lt (g := gb222) (o := .cells #[.int .u32 a0_0, .int .u32 a0_1, .int .u32 a0_2, .slice A0_3 l0_3.length c0_3, .slice A0_4 l0_4.length c0_4, .bool a0_5] 39 (0, 0)) (by (with_reducible repeat (first | refine blk_drewN ?_ _ | refine blk_drew ?_ | refine blk_alloc ?_ _)); exact BK222.out)) : gb222 ≠ gb223)); have n6_ := Aside0.mk ((by rw [hg]; exact Nat.ne_of_gt (blk_lt (g := gb222) (o := .cells #[.int .u32 a0_0, .int .u32 a0_1, .int .u32 a0_2, .slice A0_3 l0_3.length c0_3, .slice A0_4 l0_4.length c0_4, .bool a0_5] 39 (0, 0)) (by (with_reducible repeat (first | refine blk_drewN ?_ _ | refine blk_drew ?_ | refine blk_alloc ?_ _)); exact BK222.out)) : gb223 ≠ gb222)); clear BK222; clear HB; have BK222 := n0_; have HB := n1_; have BK223 := n2_; have GW223 := n3_; have GE223 := n4_; have NB222_223 := n5_; have NB223_222 := n6_; clear n0_ n1_ n2_ n3_ n4_ n5_ n6_; clear hb hbox hg; have hnb22 := NB222_223.out; have hnc22 := NB223_222.out; have hcz23_0 : w21.cell? ⟨gb222, 0, none⟩ = some (.int .u32 a0_0) := (blk_cell BK222.out 0).trans rfl; have hcz23_1 : w21.cell? ⟨gb222, 1, none⟩ = some (.int .u32 a0_1) := (blk_cell BK222.out 1).trans rfl; have hcz23_2 : w21.cell? ⟨gb222, 2, none⟩ = some (.int .u32 a0_2) := (blk_cell BK222.out 2).trans rfl; have hcz23_3 : w21.cell? ⟨gb222, 3, none⟩ = some (.slice A0_3 l0_3.length c0_3) := (blk_cell BK222.out 3).trans rfl; have hcz23_4 : w21.cell? ⟨gb222, 4, none⟩ = some (.slice A0_4 l0_4.length c0_4) := (blk_cell BK222.out 4).trans rfl; have hcz23_5 : w21.cell? ⟨gb222, 5, none⟩ = some (.bool a0_5) := (blk_cell BK222.out 5).trans rfl; have hfz23_0 := blk_frozen BK222.out 0; have hfz23_1 := blk_frozen BK222.out 1; have hfz23_2 := blk_frozen BK222.out 2; have hfz23_3 := blk_frozen BK222.out 3; have hfz23_4 := blk_frozen BK222.out 4; have hfz23_5 := blk_frozen BK222.out 5; have hcz24_0 : w21.cell? ⟨gb223, 0, none⟩ = some (.int .u32 a1_0) := (blk_cell BK223.out 0).trans rfl; have hcz24_1 : w21.cell? ⟨gb223, 1, none⟩ = some (.int .u32 a1_1) := (blk_cell BK223.out 1).trans rfl; have hcz24_2 : w21.cell? ⟨gb223, 2, none⟩ = some (.int .u32 a1_2) := (blk_cell BK223.out 2).trans rfl; have hcz24_3 : w21.cell? ⟨gb223, 3, none⟩ = some (.slice A1_3 l1_3.length c1_3) := (blk_cell BK223.out 3).trans rfl; have hcz24_4 : w21.cell? ⟨gb223, 4, none⟩ = some (.slice A1_4 l1_4.length c1_4) := (blk_cell BK223.out 4).trans rfl; have hcz24_5 : w21.cell? ⟨gb223, 5, none⟩ = some (.bool a1_5) := (blk_cell BK223.out 5).trans rfl; have hfz24_0 := blk_frozen BK223.out 0; have hfz24_1 := blk_frozen BK223.out 1; have hfz24_2 := blk_frozen BK223.out 2; have hfz24_3 := blk_frozen BK223.out 3; have hfz24_4 := blk_frozen BK223.out 4; have hfz24_5 := blk_frozen BK223.out 5))
          go_ret
          exact ⟨by first | rfl | (simp [errW_none, errW_some] <;> rfl) | (simp [*, errW_none, errW_some] <;> rfl), by repeat (first | (with_reducible first | exact HB.out | apply below_alloc | apply pw_below_drewN | apply below_drew1 | refine below_set ?_ GE222.out | refine below_set ?_ GE223.out) | exact HB.out)⟩
      · rw [if_neg c5] at H
        have c5b0 : (a0_2 == a1_2) = false := beq_eq_false_iff_ne.mpr c5
        have c5b1 : (a0_2 != a1_2) = true := bne_iff_ne.mpr c5
        obtain rfl := Option.some.inj H
        go_enter Try.func20, Try.ntmps20
        go_wp2_with (first | ((with_reducible refine gate_dst (N := 2) rfl ?_); refine box_event ?hg (N := 2) ?hd (cs := #[.int .u32 a0_0, .int .u32 a0_1, .int .u32 a0_2, .slice A0_3 l0_3.length c0_3, .slice A0_4 l0_4.length c0_4, .bool a0_5]) (t := 39) ?hr ?_; (case hd => rfl); (case hg => rfl); (case hr => first | (go_simp; done) | (go_simp; rfl)); intro gb222 hg w25 hbox hb; have n0_ := Aside0.mk (below_step (by repeat (first | (with_reducible first | exact HB.out | apply below_alloc | apply pw_below_drewN | apply below_drew1) | exact HB.out)) hb); have n1_ := Aside0.mk (hbox); have n2_ := Aside0.mk ((by rw [hg]; exact (below_size (by repeat (first | (with_reducible first | exact HB.out | apply below_alloc | apply pw_below_drewN | apply below_drew1) | exact HB.out))) : w.heap.size ≤ gb222)); have n3_ := Aside0.mk ((by rw [hg]; exact (below_size (by repeat (first | (with_reducible first | exact HB.out | apply below_alloc | apply pw_below_drewN | apply below_drew1) | exact HB.out))) : w.heap.size ≤ gb222)); clear HB; have HB := n0_; have BK222 := n1_; have GW222 := n2_; have GE222 := n3_; clear n0_ n1_ n2_ n3_; clear hb hbox hg) | ((with_reducible refine gate_dst (N := 3) rfl ?_); refine box_event ?hg (N := 3) ?hd (cs := #[.int .u32 a1_0, .int .u32 a1_1, .int .u32 a1_2, .slice A1_3 l1_3.length c1_3, .slice A1_4 l1_4.length c1_4, .bool a1_5]) (t := 39) ?hr ?_; (case hd => rfl); (case hg => rfl); (case hr => first | (go_simp; done) | (go_simp; rfl)); intro gb223 hg w26 hbox hb; have n0_ := Aside0.mk (blk_below (g := gb222) (o := .cells #[.int .u32 a0_0, .int .u32 a0_1, .int .u32 a0_2, .slice A0_3 l0_3.length c0_3, .slice A0_4 l0_4.length c0_4, .bool a0_5] 39 (0, 0)) (by (with_reducible repeat (first | refine blk_drewN ?_ _ | refine blk_drew ?_ | refine blk_alloc ?_ _)); exact BK222.out) hb); have n1_ := Aside0.mk (below_step (by repeat (first | (with_reducible first | exact HB.out | apply below_alloc | apply pw_below_drewN | apply below_drew1 | refine below_set ?_ GE222.out) | exact HB.out)) hb); have n2_ := Aside0.mk (hbox); have n3_ := Aside0.mk ((by rw [hg]; exact (below_size (by repeat (first | (with_reducible first | exact HB.out | apply below_alloc | apply pw_below_drewN | apply below_drew1 | refine below_set ?_ GE222.out) | exact HB.out))) : w.heap.size ≤ gb223)); have n4_ := Aside0.mk ((by rw [hg]; exact (below_size (by repeat (first | (with_reducible first | exact HB.out | apply below_alloc | apply pw_below_drewN | apply below_drew1 | refine below_set ?_ GE222.out) | exact HB.out))) : w.heap.size ≤ gb223)); have n5_ := Aside0.mk ((by rw [hg]; exact Nat.ne_of_lt (blk_lt (g := gb222) (o := .cells #[.int .u32 a0_0, .int .u32 a0_1, .int .u32 a0_2, .slice A0_3 l0_3.length c0_3, .slice A0_4 l0_4.length c0_4, .bool a0_5] 39 (0, 0)) (by (with_reducible repeat (first | refine blk_drewN ?_ _ | refine blk_drew ?_ | refine blk_alloc ?_ _)); exact BK222.out)) : gb222 ≠ gb223)); have n6_ := Aside0.mk ((by rw [hg]; exact Nat.ne_of_gt (blk_lt (g := gb222) (o := .cells #[.int .u32 a0_0, .int .u32 a0_1, .int .u32 a0_2, .slice A0_3 l0_3.length c0_3, .slice A0_4 l0_4.length c0_4, .bool a0_5] 39 (0, 0)) (by (with_reducible repeat (first | refine blk_drewN ?_ _ | refine blk_drew ?_ | refine blk_alloc ?_ _)); exact BK222.out)) : gb223 ≠ gb222)); clear BK222; clear HB; have BK222 := n0_; have HB := n1_; have BK223 := n2_; have GW223 := n3_; have GE223 := n4_; have NB222_223 := n5_; have NB223_222 := n6_; clear n0_ n1_ n2_ n3_ n4_ n5_ n6_; clear hb hbox hg; have hnb27 := NB222_223.out; have hnc27 := NB223_222.out; have hcz28_0 : w26.cell? ⟨gb222, 0, none⟩ = some (.int .u32 a0_0) := (blk_cell BK222.out 0).trans rfl; have hcz28_1 : w26.cell? ⟨gb222, 1, none⟩ = some (.int .u32 a0_1) := (blk_cell BK222.out 1).trans rfl; have hcz28_2 : w26.cell? ⟨gb222, 2, none⟩ = some (.int .u32 a0_2) := (blk_cell BK222.out 2).trans rfl; have hcz28_3 : w26.cell? ⟨gb222, 3, none⟩ = some (.slice A0_3 l0_3.length c0_3) := (blk_cell BK222.out 3).trans rfl; have hcz28_4 : w26.cell? ⟨gb222, 4, none⟩ = some (.slice A0_4 l0_4.length c0_4) := (blk_cell BK222.out 4).trans rfl; have hcz28_5 : w26.cell? ⟨gb222, 5, none⟩ = some (.bool a0_5) := (blk_cell BK222.out 5).trans rfl; have hfz28_0 := blk_frozen BK222.out 0; have hfz28_1 := blk_frozen BK222.out 1; have hfz28_2 := blk_frozen BK222.out 2; have hfz28_3 := blk_frozen BK222.out 3; have hfz28_4 := blk_frozen BK222.out 4; have hfz28_5 := blk_frozen BK222.out 5; have hcz29_0 : w26.cell? ⟨gb223, 0, none⟩ = some (.int .u32 a1_0) := (blk_cell BK223.out 0).trans rfl; have hcz29_1 : w26.cell? ⟨gb223, 1, none⟩ = some (.int .u32 a1_1) := (blk_cell BK223.out 1).trans rfl; have hcz29_2 : w26.cell? ⟨gb223, 2, none⟩ = some (.int .u32 a1_2) := (blk_cell BK223.out 2).trans rfl; have hcz29_3 : w26.cell? ⟨gb223, 3, none⟩ = some (.slice A1_3 l1_3.length c1_3) := (blk_cell BK223.out 3).trans rfl; have hcz29_4 : w26.cell? ⟨gb223, 4, none⟩ = some (.slice A1_4 l1_4.length c1_4) := (blk_cell BK223.out 4).trans rfl; have hcz29_5 : w26.cell? ⟨gb223, 5, none⟩ = some (.bool a1_5) := (blk_cell BK223.out 5).trans rfl; have hfz29_0 := blk_frozen BK223.out 0; have hfz29_1 := blk_frozen BK223.out 1; have hfz29_2 := blk_frozen BK223.out 2; have hfz29_3 := blk_frozen BK223.out 3; have hfz29_4 := blk_frozen BK223.out 4; have hfz29_5 := blk_frozen BK223.out 5))
        go_ret
        exact ⟨by first | rfl | (simp [errW_none, errW_some] <;> rfl) | (simp [*, errW_none, errW_some] <;> rfl), by repeat (first | (with_reducible first | exact HB.out | apply below_alloc | apply pw_below_drewN | apply below_drew1 | refine below_set ?_ GE222.out | refine below_set ?_ GE223.out) | exact HB.out)⟩
    · rw [if_neg c4] at H
      have c4b0 : (a0_1 == a1_1) = false := beq_eq_false_iff_ne.mpr c4
      have c4b1 : (a0_1 != a1_1) = true := bne_iff_ne.mpr c4
      obtain rfl := Option.some.inj H
      go_enter Try.func20, Try.ntmps20
      go_wp2_with (first | ((with_reducible refine gate_dst (N := 2) rfl ?_); refine box_event ?hg (N := 2) ?hd (cs := #[.int .u32 a0_0, .int .u32 a0_1, .int .u32 a0_2, .slice A0_3 l0_3.length c0_3, .slice A0_4 l0_4.length c0_4, .bool a0_5]) (t := 39) ?hr ?_; (case hd => rfl); (case hg => rfl); (case hr => first | (go_simp; done) | (go_simp; rfl)); intro gb222 hg w30 hbox hb; have n0_ := Aside0.mk (below_step (by repeat (first | (with_reducible first | exact HB.out | apply below_alloc | apply pw_below_drewN | apply below_drew1) | exact HB.out)) hb); have n1_ := Aside0.mk (hbox); have n2_ := Aside0.mk ((by rw [hg]; exact (below_size (by repeat (first | (with_reducible first | exact HB.out | apply below_alloc | apply pw_below_drewN | apply below_drew1) | exact HB.out))) : w.heap.size ≤ gb222)); have n3_ := Aside0.mk ((by rw [hg]; exact (below_size (by repeat (first | (with_reducible first | exact HB.out | apply below_alloc | apply pw_below_drewN | apply below_drew1) | exact HB.out))) : w.heap.size ≤ gb222)); clear HB; have HB := n0_; have BK222 := n1_; have GW222 := n2_; have GE222 := n3_; clear n0_ n1_ n2_ n3_; clear hb hbox hg) | ((with_reducible refine gate_dst (N := 3) rfl ?_); refine box_event ?hg (N := 3) ?hd (cs := #[.int .u32 a1_0, .int .u32 a1_1, .int .u32 a1_2, .slice A1_3 l1_3.length c1_3, .slice A1_4 l1_4.length c1_4, .bool a1_5]) (t := 39) ?hr ?_; (case hd => rfl); (case hg => rfl); (case hr => first | (go_simp; done) | (go_simp; rfl)); intro gb223 hg w31 hbox hb; have n0_ := Aside0.mk (blk_below (g := gb222) (o := .cells #[.int .u32 a0_0, .int .u32 a0_1, .int .u32 a0_2, .slice A0_3 l0_3.length c0_3, .slice A0_4 l0_4.length c0_4, .bool a0_5] 39 (0, 0)) (by (with_reducible repeat (first | refine blk_drewN ?_ _ | refine blk_drew ?_ | refine blk_alloc ?_ _)); exact BK222.out) hb); have n1_ := Aside0.mk (below_step (by repeat (first | (with_reducible first | exact HB.out | apply below_alloc | apply pw_below_drewN | apply below_drew1 | refine below_set ?_ GE222.out) | exact HB.out)) hb); have n2_ := Aside0.mk (hbox); have n3_ := Aside0.mk ((by rw [hg]; exact (below_size (by repeat (first | (with_reducible first | exact HB.out | apply below_alloc | apply pw_below_drewN | apply below_drew1 | refine below_set ?_ GE222.out) | exact HB.out))) : w.heap.size ≤ gb223)); have n4_ := Aside0.mk ((by rw [hg]; exact (below_size (by repeat (first | (with_reducible first | exact HB.out | apply below_alloc | apply pw_below_drewN | apply below_drew1 | refine below_set ?_ GE222.out) | exact HB.out))) : w.heap.size ≤ gb223)); have n5_ := Aside0.mk ((by rw [hg]; exact Nat.ne_of_lt (blk_lt (g := gb222) (o := .cells #[.int .u32 a0_0, .int .u32 a0_1, .int .u32 a0_2, .slice A0_3 l0_3.length c0_3, .slice A0_4 l0_4.length c0_4, .bool a0_5] 39 (0, 0)) (by (with_reducible repeat (first | refine blk_drewN ?_ _ | refine blk_drew ?_ | refine blk_alloc ?_ _)); exact BK222.out)) : gb222 ≠ gb223)); have n6_ := Aside0.mk ((by rw [hg]; exact Nat.ne_of_gt (blk_lt (g := gb222) (o := .cells #[.int .u32 a0_0, .int .u32 a0_1, .int .u32 a0_2, .slice A0_3 l0_3.length c0_3, .slice A0_4 l0_4.length c0_4, .bool a0_5] 39 (0, 0)) (by (with_reducible repeat (first | refine blk_drewN ?_ _ | refine blk_drew ?_ | refine blk_alloc ?_ _)); exact BK222.out)) : gb223 ≠ gb222)); clear BK222; clear HB; have BK222 := n0_; have HB := n1_; have BK223 := n2_; have GW223 := n3_; have GE223 := n4_; have NB222_223 := n5_; have NB223_222 := n6_; clear n0_ n1_ n2_ n3_ n4_ n5_ n6_; clear hb hbox hg; have hnb32 := NB222_223.out; have hnc32 := NB223_222.out; have hcz33_0 : w31.cell? ⟨gb222, 0, none⟩ = some (.int .u32 a0_0) := (blk_cell BK222.out 0).trans rfl; have hcz33_1 : w31.cell? ⟨gb222, 1, none⟩ = some (.int .u32 a0_1) := (blk_cell BK222.out 1).trans rfl; have hcz33_2 : w31.cell? ⟨gb222, 2, none⟩ = some (.int .u32 a0_2) := (blk_cell BK222.out 2).trans rfl; have hcz33_3 : w31.cell? ⟨gb222, 3, none⟩ = some (.slice A0_3 l0_3.length c0_3) := (blk_cell BK222.out 3).trans rfl; have hcz33_4 : w31.cell? ⟨gb222, 4, none⟩ = some (.slice A0_4 l0_4.length c0_4) := (blk_cell BK222.out 4).trans rfl; have hcz33_5 : w31.cell? ⟨gb222, 5, none⟩ = some (.bool a0_5) := (blk_cell BK222.out 5).trans rfl; have hfz33_0 := blk_frozen BK222.out 0; have hfz33_1 := blk_frozen BK222.out 1; have hfz33_2 := blk_frozen BK222.out 2; have hfz33_3 := blk_frozen BK222.out 3; have hfz33_4 := blk_frozen BK222.out 4; have hfz33_5 := blk_frozen BK222.out 5; have hcz34_0 : w31.cell? ⟨gb223, 0, none⟩ = some (.int .u32 a1_0) := (blk_cell BK223.out 0).trans rfl; have hcz34_1 : w31.cell? ⟨gb223, 1, none⟩ = some (.int .u32 a1_1) := (blk_cell BK223.out 1).trans rfl; have hcz34_2 : w31.cell? ⟨gb223, 2, none⟩ = some (.int .u32 a1_2) := (blk_cell BK223.out 2).trans rfl; have hcz34_3 : w31.cell? ⟨gb223, 3, none⟩ = some (.slice A1_3 l1_3.length c1_3) := (blk_cell BK223.out 3).trans rfl; have hcz34_4 : w31.cell? ⟨gb223, 4, none⟩ = some (.slice A1_4 l1_4.length c1_4) := (blk_cell BK223.out 4).trans rfl; have hcz34_5 : w31.cell? ⟨gb223, 5, none⟩ = some (.bool a1_5) := (blk_cell BK223.out 5).trans rfl; have hfz34_0 := blk_frozen BK223.out 0; have hfz34_1 := blk_frozen BK223.out 1; have hfz34_2 := blk_frozen BK223.out 2; have hfz34_3 := blk_frozen BK223.out 3; have hfz34_4 := blk_frozen BK223.out 4; have hfz34_5 := blk_frozen BK223.out 5))
      go_ret
      exact ⟨by first | rfl | (simp [errW_none, errW_some] <;> rfl) | (simp [*, errW_none, errW_some] <;> rfl), by repeat (first | (with_reducible first | exact HB.out | apply below_alloc | apply pw_below_drewN | apply below_drew1 | refine below_set ?_ GE222.out | refine below_set ?_ GE223.out) | exact HB.out)⟩
  · rw [if_neg c3] at H
    have c3b0 : (a0_0 == a1_0) = false := beq_eq_false_iff_ne.mpr c3
    have c3b1 : (a0_0 != a1_0) = true := bne_iff_ne.mpr c3
    obtain rfl := Option.some.inj H
    go_enter Try.func20, Try.ntmps20
    go_wp2_with (first | ((with_reducible refine gate_dst (N := 2) rfl ?_); refine box_event ?hg (N := 2) ?hd (cs := #[.int .u32 a0_0, .int .u32 a0_1, .int .u32 a0_2, .slice A0_3 l0_3.length c0_3, .slice A0_4 l0_4.length c0_4, .bool a0_5]) (t := 39) ?hr ?_; (case hd => rfl); (case hg => rfl); (case hr => first | (go_simp; done) | (go_simp; rfl)); intro gb222 hg w35 hbox hb; have n0_ := Aside0.mk (below_step (by repeat (first | (with_reducible first | exact HB.out | apply below_alloc | apply pw_below_drewN | apply below_drew1) | exact HB.out)) hb); have n1_ := Aside0.mk (hbox); have n2_ := Aside0.mk ((by rw [hg]; exact (below_size (by repeat (first | (with_reducible first | exact HB.out | apply below_alloc | apply pw_below_drewN | apply below_drew1) | exact HB.out))) : w.heap.size ≤ gb222)); have n3_ := Aside0.mk ((by rw [hg]; exact (below_size (by repeat (first | (with_reducible first | exact HB.out | apply below_alloc | apply pw_below_drewN | apply below_drew1) | exact HB.out))) : w.heap.size ≤ gb222)); clear HB; have HB := n0_; have BK222 := n1_; have GW222 := n2_; have GE222 := n3_; clear n0_ n1_ n2_ n3_; clear hb hbox hg) | ((with_reducible refine gate_dst (N := 3) rfl ?_); refine box_event ?hg (N := 3) ?hd (cs := #[.int .u32 a1_0, .int .u32 a1_1, .int .u32 a1_2, .slice A1_3 l1_3.length c1_3, .slice A1_4 l1_4.length c1_4, .bool a1_5]) (t := 39) ?hr ?_; (case hd => rfl); (case hg => rfl); (case hr => first | (go_simp; done) | (go_simp; rfl)); intro gb223 hg w36 hbox hb; have n0_ := Aside0.mk (blk_below (g := gb222) (o := .cells #[.int .u32 a0_0, .int .u32 a0_1, .int .u32 a0_2, .slice A0_3 l0_3.length c0_3, .slice A0_4 l0_4.length c0_4, .bool a0_5] 39 (0, 0)) (by (with_reducible repeat (first | refine blk_drewN ?_ _ | refine blk_drew ?_ | refine blk_alloc ?_ _)); exact BK222.out) hb); have n1_ := Aside0.mk (below_step (by repeat (first | (with_reducible first | exact HB.out | apply below_alloc | apply pw_below_drewN | apply below_drew1 | refine below_set ?_ GE222.out) | exact HB.out)) hb); have n2_ := Aside0.mk (hbox); have n3_ := Aside0.mk ((by rw [hg]; exact (below_size (by repeat (first | (with_reducible first | exact HB.out | apply below_alloc | apply pw_below_drewN | apply below_drew1 | refine below_set ?_ GE222.out) | exact HB.out))) : w.heap.size ≤ gb223)); have n4_ := Aside0.mk ((by rw [hg]; exact (below_size (by repeat (first | (with_reducible first | exact HB.out | apply below_alloc | apply pw_below_drewN | apply below_drew1 | refine below_set ?_ GE222.out) | exact HB.out))) : w.heap.size ≤ gb223)); have n5_ := Aside0.mk ((by rw [hg]; exact Nat.ne_of_lt (blk_lt (g := gb222) (o := .cells #[.int .u32 a0_0, .int .u32 a0_1, .int .u32 a0_2, .slice A0_3 l0_3.length c0_3, .slice A0_4 l0_4.length c0_4, .bool a0_5] 39 (0, 0)) (by (with_reducible repeat (first | refine blk_drewN ?_ _ | refine blk_drew ?_ | refine blk_alloc ?_ _)); exact BK222.out)) : gb222 ≠ gb223)); have n6_ := Aside0.mk ((by rw [hg]; exact Nat.ne_of_gt (blk_lt (g := gb222) (o := .cells #[.int .u32 a0_0, .int .u32 a0_1, .int .u32 a0_2, .slice A0_3 l0_3.length c0_3, .slice A0_4 l0_4.length c0_4, .bool a0_5] 39 (0, 0)) (by (with_reducible repeat (first | refine blk_drewN ?_ _ | refine blk_drew ?_ | refine blk_alloc ?_ _)); exact BK222.out)) : gb223 ≠ gb222)); clear BK222; clear HB; have BK222 := n0_; have HB := n1_; have BK223 := n2_; have GW223 := n3_; have GE223 := n4_; have NB222_223 := n5_; have NB223_222 := n6_; clear n0_ n1_ n2_ n3_ n4_ n5_ n6_; clear hb hbox hg; have hnb37 := NB222_223.out; have hnc37 := NB223_222.out; have hcz38_0 : w36.cell? ⟨gb222, 0, none⟩ = some (.int .u32 a0_0) := (blk_cell BK222.out 0).trans rfl; have hcz38_1 : w36.cell? ⟨gb222, 1, none⟩ = some (.int .u32 a0_1) := (blk_cell BK222.out 1).trans rfl; have hcz38_2 : w36.cell? ⟨gb222, 2, none⟩ = some (.int .u32 a0_2) := (blk_cell BK222.out 2).trans rfl; have hcz38_3 : w36.cell? ⟨gb222, 3, none⟩ = some (.slice A0_3 l0_3.length c0_3) := (blk_cell BK222.out 3).trans rfl; have hcz38_4 : w36.cell? ⟨gb222, 4, none⟩ = some (.slice A0_4 l0_4.length c0_4) := (blk_cell BK222.out 4).trans rfl; have hcz38_5 : w36.cell? ⟨gb222, 5, none⟩ = some (.bool a0_5) := (blk_cell BK222.out 5).trans rfl; have hfz38_0 := blk_frozen BK222.out 0; have hfz38_1 := blk_frozen BK222.out 1; have hfz38_2 := blk_frozen BK222.out 2; have hfz38_3 := blk_frozen BK222.out 3; have hfz38_4 := blk_frozen BK222.out 4; have hfz38_5 := blk_frozen BK222.out 5; have hcz39_0 : w36.cell? ⟨gb223, 0, none⟩ = some (.int .u32 a1_0) := (blk_cell BK223.out 0).trans rfl; have hcz39_1 : w36.cell? ⟨gb223, 1, none⟩ = some (.int .u32 a1_1) := (blk_cell BK223.out 1).trans rfl; have hcz39_2 : w36.cell? ⟨gb223, 2, none⟩ = some (.int .u32 a1_2) := (blk_cell BK223.out 2).trans rfl; have hcz39_3 : w36.cell? ⟨gb223, 3, none⟩ = some (.slice A1_3 l1_3.length c1_3) := (blk_cell BK223.out 3).trans rfl; have hcz39_4 : w36.cell? ⟨gb223, 4, none⟩ = some (.slice A1_4 l1_4.length c1_4) := (blk_cell BK223.out 4).trans rfl; have hcz39_5 : w36.cell? ⟨gb223, 5, none⟩ = some (.bool a1_5) := (blk_cell BK223.out 5).trans rfl; have hfz39_0 := blk_frozen BK223.out 0; have hfz39_1 := blk_frozen BK223.out 1; have hfz39_2 := blk_frozen BK223.out 2; have hfz39_3 := blk_frozen BK223.out 3; have hfz39_4 := blk_frozen BK223.out 4; have hfz39_5 := blk_frozen BK223.out 5))
    go_ret
    exact ⟨by first | rfl | (simp [errW_none, errW_some] <;> rfl) | (simp [*, errW_none, errW_some] <;> rfl), by repeat (first | (with_reducible first | exact HB.out | apply below_alloc | apply pw_below_drewN | apply below_drew1 | refine below_set ?_ GE222.out | refine below_set ?_ GE223.out) | exact HB.out)⟩

/-! ### chamberlainref04_At: function 23 -/
def chamberlainref04_At.f (l0_0 : List Int) (a0_1 : Int) (a1 : Int) : Option (Int) := if a1 < (l0_0.length : Int) then (if 0 ≤ a1 then (if (rd l0_0 a1) < 2147483648 then (some (((rd l0_0 a1) + 2147483648) % 4294967296)) else (some (rd l0_0 a1))) else (none)) else (if (Go.bits .or .u32 1073741824 ((a1) % 4294967296)) < 2147483648 then (some (((Go.bits .or .u32 1073741824 ((a1) % 4294967296)) + 2147483648) % 4294967296)) else (some (Go.bits .or .u32 1073741824 ((a1) % 4294967296))))
set_option maxHeartbeats 8000000 in
set_option maxRecDepth 100000 in
theorem chamberlainref04_At.calls (A0_0 : Option Addr) (c0_0 : Nat) (l0_0 : List Int) (a0_1 : Int) (a1 : Int) (r : Int) (w : World) (hr0_0 : Kd.C (Kd.int .u32) w A0_0 l0_0.length l0_0) (hc0_0 : l0_0.length ≤ c0_0) (h : chamberlainref04_At.f l0_0 a0_1 a1 = some r) :
    Calls Try.prog 23 #[.agg #[.slice A0_0 l0_0.length c0_0, .int .i64 a0_1], .int .i64 a1] w fun e w' => e = .returned (.int .u32 r) ∧ Below w.heap.size w w' := by
  have hu24 := Try.underlying24
  have HR0_0 := Aside0.mk hr0_0
  have HC0_0 := Aside0.mk hc0_0
  clear hr0_0 hc0_0
  have HB := Aside0.mk (Below.refl w.heap.size w)
  have H : (if a1 < (l0_0.length : Int) then (if 0 ≤ a1 then (if (rd l0_0 a1) < 2147483648 then (some (((rd l0_0 a1) + 2147483648) % 4294967296)) else (some (rd l0_0 a1))) else (none)) else (if (Go.bits .or .u32 1073741824 ((a1) % 4294967296)) < 2147483648 then (some (((Go.bits .or .u32 1073741824 ((a1) % 4294967296)) + 2147483648) % 4294967296)) else (some (Go.bits .or .u32 1073741824 ((a1) % 4294967296))))) = some r := h
  clear h
  by_cases c3 : a1 < (l0_0.length : Int)
  · rw [if_pos c3] at H
    have c3b0 : decide (a1 < (l0_0.length : Int)) = true := decide_eq_true c3
    clear c3
    by_cases c4 : 0 ≤ a1
    · rw [if_pos c4] at H
      have c4b0 : decide (0 ≤ a1) = true := decide_eq_true c4
      clear c4
      by_cases c5 : (rd l0_0 a1) < 2147483648
      · rw [if_pos c5] at H
        have c5b0 : decide ((rd l0_0 a1) < 2147483648) = true := decide_eq_true c5
        clear c5
        obtain rfl := Option.some.inj H
        go_enter Try.func23, Try.ntmps23
        go_wp2_with (first | ((with_reducible refine gate_dst (N := 2) rfl ?_); refine box_event ?hg (N := 2) ?hd (cs := #[.slice A0_0 l0_0.length c0_0, .int .i64 a0_1]) (t := 24) ?hr ?_; (case hd => rfl); (case hg => rfl); (case hr => first | (go_simp; done) | (go_simp; rfl)); intro gb226 hg w6 hbox hb; have n0_ := Aside0.mk (below_step (by repeat (first | (with_reducible first | exact HB.out | apply below_alloc | apply pw_below_drewN | apply below_drew1) | exact HB.out)) hb); have n1_ := Aside0.mk (hbox); have n2_ := Aside0.mk ((by rw [hg]; exact (below_size (by repeat (first | (with_reducible first | exact HB.out | apply below_alloc | apply pw_below_drewN | apply below_drew1) | exact HB.out))) : w.heap.size ≤ gb226)); have n3_ := Aside0.mk ((by rw [hg]; exact (below_size (by repeat (first | (with_reducible first | exact HB.out | apply below_alloc | apply pw_below_drewN | apply below_drew1) | exact HB.out))) : w.heap.size ≤ gb226)); clear HB; have HB := n0_; have BK226 := n1_; have GW226 := n2_; have GE226 := n3_; clear n0_ n1_ n2_ n3_; clear hb hbox hg; have hcz7_0 : w6.cell? ⟨gb226, 0, none⟩ = some (.slice A0_0 l0_0.length c0_0) := (blk_cell BK226.out 0).trans rfl; have hcz7_1 : w6.cell? ⟨gb226, 1, none⟩ = some (.int .i64 a0_1) := (blk_cell BK226.out 1).trans rfl; have hfz7_0 := blk_frozen BK226.out 0; have hfz7_1 := blk_frozen BK226.out 1; have p227 : 0 ≤ (a1 : Int) := of_decide_eq_true (by first | (with_reducible assumption) | assumption); have q227 : a1 < (l0_0.length : Int) := of_decide_eq_true (by first | (with_reducible assumption) | assumption); obtain ⟨ad227, e227, hx227_0⟩ := Kd.at_int HR0_0.out a1 p227 q227; cases e227; replace hx227_0 := (HB.out.cell (World.block_lt_of_cell? w _ hx227_0)).trans hx227_0; replace p227 := eq_true p227; replace q227 := eq_true q227))
        go_ret
        exact ⟨by first | rfl | (simp [errW_none, errW_some] <;> rfl) | (simp [*, errW_none, errW_some] <;> rfl), by repeat (first | (with_reducible first | exact HB.out | apply below_alloc | apply pw_below_drewN | apply below_drew1 | refine below_set ?_ GE226.out) | exact HB.out)⟩
      · rw [if_neg c5] at H
        have c5b0 : decide ((rd l0_0 a1) < 2147483648) = false := decide_eq_false c5
        clear c5
        obtain rfl := Option.some.inj H
        go_enter Try.func23, Try.ntmps23
        go_wp2_with (first | ((with_reducible refine gate_dst (N := 2) rfl ?_); refine box_event ?hg (N := 2) ?hd (cs := #[.slice A0_0 l0_0.length c0_0, .int .i64 a0_1]) (t := 24) ?hr ?_; (case hd => rfl); (case hg => rfl); (case hr => first | (go_simp; done) | (go_simp; rfl)); intro gb226 hg w8 hbox hb; have n0_ := Aside0.mk (below_step (by repeat (first | (with_reducible first | exact HB.out | apply below_alloc | apply pw_below_drewN | apply below_drew1) | exact HB.out)) hb); have n1_ := Aside0.mk (hbox); have n2_ := Aside0.mk ((by rw [hg]; exact (below_size (by repeat (first | (with_reducible first | exact HB.out | apply below_alloc | apply pw_below_drewN | apply below_drew1) | exact HB.out))) : w.heap.size ≤ gb226)); have n3_ := Aside0.mk ((by rw [hg]; exact (below_size (by repeat (first | (with_reducible first | exact HB.out | apply below_alloc | apply pw_below_drewN | apply below_drew1) | exact HB.out))) : w.heap.size ≤ gb226)); clear HB; have HB := n0_; have BK226 := n1_; have GW226 := n2_; have GE226 := n3_; clear n0_ n1_ n2_ n3_; clear hb hbox hg; have hcz9_0 : w8.cell? ⟨gb226, 0, none⟩ = some (.slice A0_0 l0_0.length c0_0) := (blk_cell BK226.out 0).trans rfl; have hcz9_1 : w8.cell? ⟨gb226, 1, none⟩ = some (.int .i64 a0_1) := (blk_cell BK226.out 1).trans rfl; have hfz9_0 := blk_frozen BK226.out 0; have hfz9_1 := blk_frozen BK226.out 1; have p227 : 0 ≤ (a1 : Int) := of_decide_eq_true (by first | (with_reducible assumption) | assumption); have q227 : a1 < (l0_0.length : Int) := of_decide_eq_true (by first | (with_reducible assumption) | assumption); obtain ⟨ad227, e227, hx227_0⟩ := Kd.at_int HR0_0.out a1 p227 q227; cases e227; replace hx227_0 := (HB.out.cell (World.block_lt_of_cell? w _ hx227_0)).trans hx227_0; replace p227 := eq_true p227; replace q227 := eq_true q227))
        go_ret
        exact ⟨by first | rfl | (simp [errW_none, errW_some] <;> rfl) | (simp [*, errW_none, errW_some] <;> rfl), by repeat (first | (with_reducible first | exact HB.out | apply below_alloc | apply pw_below_drewN | apply below_drew1 | refine below_set ?_ GE226.out) | exact HB.out)⟩
    · rw [if_neg c4] at H
      exact absurd H (by simp)
  · rw [if_neg c3] at H
    have c3b0 : decide (a1 < (l0_0.length : Int)) = false := decide_eq_false c3
    clear c3
    by_cases c10 : (Go.bits .or .u32 1073741824 ((a1) % 4294967296)) < 2147483648
    · rw [if_pos c10] at H
      have c10b0 : decide ((Go.bits .or .u32 1073741824 ((a1) % 4294967296)) < 2147483648) = true := decide_eq_true c10
      clear c10
      obtain rfl := Option.some.inj H
      go_enter Try.func23, Try.ntmps23
      go_wp2_with (first | ((with_reducible refine gate_dst (N := 2) rfl ?_); refine box_event ?hg (N := 2) ?hd (cs := #[.slice A0_0 l0_0.length c0_0, .int .i64 a0_1]) (t := 24) ?hr ?_; (case hd => rfl); (case hg => rfl); (case hr => first | (go_simp; done) | (go_simp; rfl)); intro gb226 hg w11 hbox hb; have n0_ := Aside0.mk (below_step (by repeat (first | (with_reducible first | exact HB.out | apply below_alloc | apply pw_below_drewN | apply below_drew1) | exact HB.out)) hb); have n1_ := Aside0.mk (hbox); have n2_ := Aside0.mk ((by rw [hg]; exact (below_size (by repeat (first | (with_reducible first | exact HB.out | apply below_alloc | apply pw_below_drewN | apply below_drew1) | exact HB.out))) : w.heap.size ≤ gb226)); have n3_ := Aside0.mk ((by rw [hg]; exact (below_size (by repeat (first | (with_reducible first | exact HB.out | apply below_alloc | apply pw_below_drewN | apply below_drew1) | exact HB.out))) : w.heap.size ≤ gb226)); clear HB; have HB := n0_; have BK226 := n1_; have GW226 := n2_; have GE226 := n3_; clear n0_ n1_ n2_ n3_; clear hb hbox hg; have hcz12_0 : w11.cell? ⟨gb226, 0, none⟩ = some (.slice A0_0 l0_0.length c0_0) := (blk_cell BK226.out 0).trans rfl; have hcz12_1 : w11.cell? ⟨gb226, 1, none⟩ = some (.int .i64 a0_1) := (blk_cell BK226.out 1).trans rfl; have hfz12_0 := blk_frozen BK226.out 0; have hfz12_1 := blk_frozen BK226.out 1))
      go_ret
      exact ⟨by first | rfl | (simp [errW_none, errW_some] <;> rfl) | (simp [*, errW_none, errW_some] <;> rfl), by repeat (first | (with_reducible first | exact HB.out | apply below_alloc | apply pw_below_drewN | apply below_drew1 | refine below_set ?_ GE226.out) | exact HB.out)⟩
    · rw [if_neg c10] at H
      have c10b0 : decide ((Go.bits .or .u32 1073741824 ((a1) % 4294967296)) < 2147483648) = false := decide_eq_false c10
      clear c10
      obtain rfl := Option.some.inj H
      go_enter Try.func23, Try.ntmps23
      go_wp2_with (first | ((with_reducible refine gate_dst (N := 2) rfl ?_); refine box_event ?hg (N := 2) ?hd (cs := #[.slice A0_0 l0_0.length c0_0, .int .i64 a0_1]) (t := 24) ?hr ?_; (case hd => rfl); (case hg => rfl); (case hr => first | (go_simp; done) | (go_simp; rfl)); intro gb226 hg w13 hbox hb; have n0_ := Aside0.mk (below_step (by repeat (first | (with_reducible first | exact HB.out | apply below_alloc | apply pw_below_drewN | apply below_drew1) | exact HB.out)) hb); have n1_ := Aside0.mk (hbox); have n2_ := Aside0.mk ((by rw [hg]; exact (below_size (by repeat (first | (with_reducible first | exact HB.out | apply below_alloc | apply pw_below_drewN | apply below_drew1) | exact HB.out))) : w.heap.size ≤ gb226)); have n3_ := Aside0.mk ((by rw [hg]; exact (below_size (by repeat (first | (with_reducible first | exact HB.out | apply below_alloc | apply pw_below_drewN | apply below_drew1) | exact HB.out))) : w.heap.size ≤ gb226)); clear HB; have HB := n0_; have BK226 := n1_; have GW226 := n2_; have GE226 := n3_; clear n0_ n1_ n2_ n3_; clear hb hbox hg; have hcz14_0 : w13.cell? ⟨gb226, 0, none⟩ = some (.slice A0_0 l0_0.length c0_0) := (blk_cell BK226.out 0).trans rfl; have hcz14_1 : w13.cell? ⟨gb226, 1, none⟩ = some (.int .i64 a0_1) := (blk_cell BK226.out 1).trans rfl; have hfz14_0 := blk_frozen BK226.out 0; have hfz14_1 := blk_frozen BK226.out 1))
      go_ret
      exact ⟨by first | rfl | (simp [errW_none, errW_some] <;> rfl) | (simp [*, errW_none, errW_some] <;> rfl), by repeat (first | (with_reducible first | exact HB.out | apply below_alloc | apply pw_below_drewN | apply below_drew1 | refine below_set ?_ GE226.out) | exact HB.out)⟩

end Go.Proofs.Ytlgbahgddpggfaa.PPeopleKeys
