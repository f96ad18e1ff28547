-- Written for this claim by wip/tools/myprint.py (print.py's forms; proofs of the faked functions by hand).
import Derived.Test.YtlgbahgddpggfaaPPeopleKeepsx2
import Derived.Test.YtlgbahgddpggfaaPPeopleKeepsx3
import Derived.Test.YtlgbahgddpggfaaPPeopleKeepsx0
import Derived.Test.YtlgbahgddpggfaaPPeopleKeepsx1
namespace Go.Proofs.Ytlgbahgddpggfaa.PPeopleKeeps
open Go.RowKit Go.Proofs.YtlgbahgddpggfaaW.PrintWords Go.Proofs.YtlgbahgddpggfaaW.PrintLast Go.Proofs.YtlgbahgddpggfaaW.PrintMore
attribute [local go_sem] max2_int min2_int max_two min_two max_three min_three max_four min_four   -- for this text's walks alone
set_option linter.unusedVariables false
set_option linter.unusedSimpArgs false

attribute [local go_sem high] eqA66
/-! ### chamberlainref10_Few: function 9 -/
mutual
def chamberlainref10_Few.l0 : Nat → List (S39) → Int → Option (Bool)
  | 0, _, _ => none
  | k + 1, x0, x3 => if x3 < (x0.length : Int) then (chamberlainref10_Few.j1 k x0 x3 (decide (x3 < 20))) else (chamberlainref10_Few.j1 k x0 x3 false)
def chamberlainref10_Few.j1 : Nat → List (S39) → Int → Bool → Option (Bool)
  | 0, _, _, _ => none
  | k + 1, x0, x3, x11 => if x11 = true then (if 0 ≤ x3 then (if x3 < (x0.length : Int) then (if (((rd_T39 x0 x3).f3).length : Int) > 100 then (some false) else (if (((rd_T39 x0 x3).f4).length : Int) > 100 then (some false) else (chamberlainref10_Few.l0 k x0 (wrap64 (x3 + 1))))) else (none)) else (none)) else (some (decide ((x0.length : Int) ≤ 10)))
end
def chamberlainref10_Few.f (k : Nat) (l0 : List (S39)) : Option (Bool) := chamberlainref10_Few.l0 k l0 0
theorem chamberlainref10_Few.mono_l : ∀ k, (∀ y0 y1, LeO (chamberlainref10_Few.l0 k y0 y1) (chamberlainref10_Few.l0 (k + 1) y0 y1)) ∧ (∀ y0 y1 y2, LeO (chamberlainref10_Few.j1 k y0 y1 y2) (chamberlainref10_Few.j1 (k + 1) y0 y1 y2))
  | 0 => ⟨fun _ _ r h => by simp [chamberlainref10_Few.l0] at h, fun _ _ _ r h => by simp [chamberlainref10_Few.j1] at h⟩
  | k + 1 => by
    obtain ⟨ih0, ih1⟩ := chamberlainref10_Few.mono_l k
    refine ⟨?_, ?_⟩
    · intro y0 y1
      unfold chamberlainref10_Few.l0
      repeat' first
      | (with_reducible exact ih0 _ _)
      | (with_reducible exact ih1 _ _ _)
      | (with_reducible exact LeO.refl _)
      | (with_reducible exact LeO.none _)
      | (with_reducible refine LeO.ite ?_ ?_)
      | (with_reducible refine LeO.bind ?_ (fun _ => ?_))
      | exact ih0 _ _
      | exact ih1 _ _ _
      | exact LeO.none _
      | refine LeO.ite ?_ ?_
      | refine LeO.bind ?_ (fun _ => ?_)
    · intro y0 y1 y2
      unfold chamberlainref10_Few.j1
      repeat' first
      | (with_reducible exact ih0 _ _)
      | (with_reducible exact ih1 _ _ _)
      | (with_reducible exact LeO.refl _)
      | (with_reducible exact LeO.none _)
      | (with_reducible refine LeO.ite ?_ ?_)
      | (with_reducible refine LeO.bind ?_ (fun _ => ?_))
      | exact ih0 _ _
      | exact ih1 _ _ _
      | exact LeO.none _
      | refine LeO.ite ?_ ?_
      | refine LeO.bind ?_ (fun _ => ?_)
theorem chamberlainref10_Few.mono : ∀ a0 k, LeO (chamberlainref10_Few.f k a0) (chamberlainref10_Few.f (k + 1) a0) := by
  intro a0 k
  obtain ⟨ih0, ih1⟩ := chamberlainref10_Few.mono_l k
  unfold chamberlainref10_Few.f
  repeat' first
      | (with_reducible exact ih0 _ _)
      | (with_reducible exact ih1 _ _ _)
      | (with_reducible exact LeO.refl _)
      | (with_reducible exact LeO.none _)
      | (with_reducible refine LeO.ite ?_ ?_)
      | (with_reducible refine LeO.bind ?_ (fun _ => ?_))
      | exact ih0 _ _
      | exact ih1 _ _ _
      | exact LeO.none _
      | refine LeO.ite ?_ ?_
      | refine LeO.bind ?_ (fun _ => ?_)
set_option maxHeartbeats 8000000 in
set_option maxRecDepth 100000 in
theorem chamberlainref10_Few.calls (k : Nat) (A0 : Option Addr) (c0 : Nat) (l0 : List (S39)) (r : Bool) (w : World) (hr0 : Kd.C k39 w A0 l0.length l0) (hc0 : l0.length ≤ c0) (h : chamberlainref10_Few.f k l0 = some r) :
    Calls Try.prog 9 #[.slice A0 l0.length c0] w fun e w' => e = .returned (.bool r) ∧ Drawn0 w w' := by
  have HR0 := Aside0.mk hr0
  have HC0 := Aside0.mk hc0
  clear hr0 hc0
  have H : (chamberlainref10_Few.l0 k l0 0) = some r := h
  clear h
  have H' := Aside0.mk H
  clear H
  go_enter Try.func9, Try.ntmps9
  go_wp2
  go_loopg [3] k (fun kq v3 w' => ∃ (x3_1 : Int), v3 = .int .i64 x3_1 ∧ Aside0 (chamberlainref10_Few.l0 kq l0 x3_1 = some r) ∧ Aside0 (kq ≤ k) ∧ Drawn0 w w')
  case atStart => exact ⟨(0), (by first | rfl | (simp; done) | (simp [*]; done)), H', ⟨Nat.le_refl _⟩, by repeat (first | exact Drawn0.refl _ | apply Drawn0.step)⟩
  case round =>
    clear H'
    obtain ⟨x3_1, rfl, HA, HK1, ⟨m1, rfl⟩⟩ := hrel
    cases gk with
    | zero => exact absurd HA.out (by simp [chamberlainref10_Few.l0])
    | succ k1 =>
      have H := HA.out
      clear HA
      simp only [chamberlainref10_Few.l0] at H
      have HC2 := Aside0.mk H
      clear H
      go_upto_region 2 with (fail)
      go_cut [11] (fun v11 wc => ∃ (kq : Nat) (x11_1 : Bool), v11 = .bool x11_1 ∧ Aside0 (chamberlainref10_Few.j1 kq l0 x3_1 x11_1 = some r) ∧ Aside0 (kq ≤ k1) ∧ Drawn0 w wc)
      case first =>
        have H := HC2.out
        clear HC2
        by_cases c3 : x3_1 < (l0.length : Int)
        · rw [if_pos c3] at H
          have c3b0 : decide (x3_1 < (l0.length : Int)) = true := decide_eq_true c3
          clear c3
          (first | rw [c3b0] | (simp only [i64_w, i32_w]; rw [c3b0]) | skip)
          have H' := Aside0.mk H
          clear H
          go_wp2
          go_meet
          case rel => exact ⟨_, (decide (x3_1 < 20)), (by first | rfl | (simp; done) | (simp [*]; done)), H', ⟨by have := HK1.out; first | omega | exact Nat.le_refl _⟩, by repeat (first | exact Drawn0.refl _ | apply Drawn0.step)⟩
        · rw [if_neg c3] at H
          have c3b0 : decide (x3_1 < (l0.length : Int)) = false := decide_eq_false c3
          clear c3
          (first | rw [c3b0] | (simp only [i64_w, i32_w]; rw [c3b0]) | skip)
          have H' := Aside0.mk H
          clear H
          go_wp2
          go_meet
          case rel => exact ⟨_, (false), (by first | rfl | (simp; done) | (simp [*]; done)), H', ⟨by have := HK1.out; first | omega | exact Nat.le_refl _⟩, by repeat (first | exact Drawn0.refl _ | apply Drawn0.step)⟩
      case rest =>
        clear HC2
        try clear p2
        try clear c3
        try clear c3b0
        obtain ⟨kq, x11_1, rfl, HA, HJ1, ⟨mc1, rfl⟩⟩ := hcut
        cases kq with
        | zero => exact absurd HA.out (by simp [chamberlainref10_Few.j1])
        | succ kj1 =>
          have H := HA.out
          clear HA
          simp only [chamberlainref10_Few.j1] at H
          by_cases c4 : x11_1 = true
          · subst c4
            have H1 : (if 0 ≤ x3_1 then (if x3_1 < (l0.length : Int) then (if (((rd_T39 l0 x3_1).f3).length : Int) > 100 then (some false) else (if (((rd_T39 l0 x3_1).f4).length : Int) > 100 then (some false) else (chamberlainref10_Few.l0 kj1 l0 (wrap64 (x3_1 + 1))))) else (none)) else (none)) = some r := by rw [if_pos rfl] at H; exact H
            clear H
            have H := H1
            clear H1
            by_cases c5 : 0 ≤ x3_1
            · rw [if_pos c5] at H
              have c5b0 : decide (0 ≤ x3_1) = true := decide_eq_true c5
              clear c5
              by_cases c6 : x3_1 < (l0.length : Int)
              · rw [if_pos c6] at H
                have c6b0 : decide (x3_1 < (l0.length : Int)) = true := decide_eq_true c6
                clear c6
                by_cases c7 : (((rd_T39 l0 x3_1).f3).length : Int) > 100
                · rw [if_pos c7] at H
                  have c7b0 : decide (100 < (((rd_T39 l0 x3_1).f3).length : Int)) = true := decide_eq_true c7
                  have c7b1 : decide (100 < ((rd_T39 l0 x3_1).f3).length) = true := decide_eq_true (by omega)
                  clear c7
                  obtain rfl := Option.some.inj H
                  have p218 : 0 ≤ (x3_1 : Int) := of_decide_eq_true (by first | (with_reducible assumption) | assumption)
                  have q218 : x3_1 < (l0.length : Int) := of_decide_eq_true (by first | (with_reducible assumption) | assumption)
                  obtain ⟨ad218, A218_3, c218_3, A218_4, c218_4, e218, hx218_0, hx218_1, hx218_2, hx218_3, hx218_4, hx218_5, hl218_3, hi218_3, hl218_4, hi218_4⟩ := at_T39 HR0.out x3_1 p218 q218
                  cases e218
                  have HR218_3 := Aside0.mk hi218_3
                  have HC218_3 := Aside0.mk hl218_3
                  clear hi218_3 hl218_3
                  have HR218_4 := Aside0.mk hi218_4
                  have HC218_4 := Aside0.mk hl218_4
                  clear hi218_4 hl218_4
                  replace p218 := eq_true p218
                  replace q218 := eq_true q218
                  go_wp2
                  go_ret
                  exact ⟨by first | rfl | (simp; done) | (simp [*]; done), by repeat (first | exact Drawn0.refl _ | apply Drawn0.step)⟩
                · rw [if_neg c7] at H
                  have c7b0 : decide (100 < (((rd_T39 l0 x3_1).f3).length : Int)) = false := decide_eq_false c7
                  have c7b1 : decide (100 < ((rd_T39 l0 x3_1).f3).length) = false := decide_eq_false (by omega)
                  clear c7
                  by_cases c8 : (((rd_T39 l0 x3_1).f4).length : Int) > 100
                  · rw [if_pos c8] at H
                    have c8b0 : decide (100 < (((rd_T39 l0 x3_1).f4).length : Int)) = true := decide_eq_true c8
                    have c8b1 : decide (100 < ((rd_T39 l0 x3_1).f4).length) = true := decide_eq_true (by omega)
                    clear c8
                    obtain rfl := Option.some.inj H
                    have p218 : 0 ≤ (x3_1 : Int) := of_decide_eq_true (by first | (with_reducible assumption) | assumption)
                    have q218 : x3_1 < (l0.length : Int) := of_decide_eq_true (by first | (with_reducible assumption) | assumption)
                    obtain ⟨ad218, A218_3, c218_3, A218_4, c218_4, e218, hx218_0, hx218_1, hx218_2, hx218_3, hx218_4, hx218_5, hl218_3, hi218_3, hl218_4, hi218_4⟩ := at_T39 HR0.out x3_1 p218 q218
                    cases e218
                    have HR218_3 := Aside0.mk hi218_3
                    have HC218_3 := Aside0.mk hl218_3
                    clear hi218_3 hl218_3
                    have HR218_4 := Aside0.mk hi218_4
                    have HC218_4 := Aside0.mk hl218_4
                    clear hi218_4 hl218_4
                    replace p218 := eq_true p218
                    replace q218 := eq_true q218
                    have p219 : 0 ≤ (x3_1 : Int) := of_decide_eq_true (by first | (with_reducible assumption) | assumption)
                    have q219 : x3_1 < (l0.length : Int) := of_decide_eq_true (by first | (with_reducible assumption) | assumption)
                    obtain ⟨ad219, A219_3, c219_3, A219_4, c219_4, e219, hx219_0, hx219_1, hx219_2, hx219_3, hx219_4, hx219_5, hl219_3, hi219_3, hl219_4, hi219_4⟩ := at_T39 HR0.out x3_1 p219 q219
                    obtain rfl : ad218 = ad219 := (by injection e219)
                    have HR219_3 := Aside0.mk hi219_3
                    have HC219_3 := Aside0.mk hl219_3
                    clear hi219_3 hl219_3
                    have HR219_4 := Aside0.mk hi219_4
                    have HC219_4 := Aside0.mk hl219_4
                    clear hi219_4 hl219_4
                    replace p219 := eq_true p219
                    replace q219 := eq_true q219
                    have ea_ := Option.some.inj (hx218_3.symm.trans hx219_3)
                    injection ea_ with ea_ en_ ec_
                    subst ea_
                    subst ec_
                    clear en_
                    have ea_ := Option.some.inj (hx218_4.symm.trans hx219_4)
                    injection ea_ with ea_ en_ ec_
                    subst ea_
                    subst ec_
                    clear en_
                    go_wp2
                    go_ret
                    exact ⟨by first | rfl | (simp; done) | (simp [*]; done), by repeat (first | exact Drawn0.refl _ | apply Drawn0.step)⟩
                  · rw [if_neg c8] at H
                    have c8b0 : decide (100 < (((rd_T39 l0 x3_1).f4).length : Int)) = false := decide_eq_false c8
                    have c8b1 : decide (100 < ((rd_T39 l0 x3_1).f4).length) = false := decide_eq_false (by omega)
                    clear c8
                    have H' := Aside0.mk H
                    clear H
                    have p218 : 0 ≤ (x3_1 : Int) := of_decide_eq_true (by first | (with_reducible assumption) | assumption)
                    have q218 : x3_1 < (l0.length : Int) := of_decide_eq_true (by first | (with_reducible assumption) | assumption)
                    obtain ⟨ad218, A218_3, c218_3, A218_4, c218_4, e218, hx218_0, hx218_1, hx218_2, hx218_3, hx218_4, hx218_5, hl218_3, hi218_3, hl218_4, hi218_4⟩ := at_T39 HR0.out x3_1 p218 q218
                    cases e218
                    have HR218_3 := Aside0.mk hi218_3
                    have HC218_3 := Aside0.mk hl218_3
                    clear hi218_3 hl218_3
                    have HR218_4 := Aside0.mk hi218_4
                    have HC218_4 := Aside0.mk hl218_4
                    clear hi218_4 hl218_4
                    replace p218 := eq_true p218
                    replace q218 := eq_true q218
                    have p219 : 0 ≤ (x3_1 : Int) := of_decide_eq_true (by first | (with_reducible assumption) | assumption)
                    have q219 : x3_1 < (l0.length : Int) := of_decide_eq_true (by first | (with_reducible assumption) | assumption)
                    obtain ⟨ad219, A219_3, c219_3, A219_4, c219_4, e219, hx219_0, hx219_1, hx219_2, hx219_3, hx219_4, hx219_5, hl219_3, hi219_3, hl219_4, hi219_4⟩ := at_T39 HR0.out x3_1 p219 q219
                    obtain rfl : ad218 = ad219 := (by injection e219)
                    have HR219_3 := Aside0.mk hi219_3
                    have HC219_3 := Aside0.mk hl219_3
                    clear hi219_3 hl219_3
                    have HR219_4 := Aside0.mk hi219_4
                    have HC219_4 := Aside0.mk hl219_4
                    clear hi219_4 hl219_4
                    replace p219 := eq_true p219
                    replace q219 := eq_true q219
                    have ea_ := Option.some.inj (hx218_3.symm.trans hx219_3)
                    injection ea_ with ea_ en_ ec_
                    subst ea_
                    subst ec_
                    clear en_
                    have ea_ := Option.some.inj (hx218_4.symm.trans hx219_4)
                    injection ea_ with ea_ en_ ec_
                    subst ea_
                    subst ec_
                    clear en_
                    go_wp2
                    go_roundg kj1
                    case measure => have := HK1.out; have := HJ1.out; omega
                    case rel => exact ⟨(wrap64 (x3_1 + 1)), (by first | rfl | (simp; done) | (simp [*]; done)), H', ⟨by have := HK1.out; have := HJ1.out; omega⟩, by repeat (first | exact Drawn0.refl _ | apply Drawn0.step)⟩
              · rw [if_neg c6] at H
                exact absurd H (by simp)
            · rw [if_neg c5] at H
              exact absurd H (by simp)
          · replace c4 := Bool.eq_false_iff.mpr c4
            subst c4
            have H1 : (some (decide ((l0.length : Int) ≤ 10))) = some r := by rw [if_neg (show ¬ (false = true) by decide)] at H; exact H
            clear H
            have H := H1
            clear H1
            obtain rfl := Option.some.inj H
            go_wp2
            go_ret
            exact ⟨by first | rfl | (simp; done) | (simp [*]; done), by repeat (first | exact Drawn0.refl _ | apply Drawn0.step)⟩

/-! ### chamberlainref10_Right: function 12 -/
def chamberlainref10_Right.l0 : Nat → List (S39) → Int → Option (Bool)
  | 0, _, _ => none
  | k + 1, x0, x3 => if x3 < (x0.length : Int) then (if 0 ≤ x3 then (if ((rd_T39 x0 x3).f0) = ((x3) % 4294967296) then (chamberlainref10_Right.l0 k x0 (wrap64 (x3 + 1))) else (some false)) else (none)) else (if (x0.length : Int) > 1 then (some (decide ((x0.length : Int) < 8))) else (some false))
def chamberlainref10_Right.f (k : Nat) (l0 : List (S39)) : Option (Bool) := chamberlainref10_Right.l0 k l0 0
theorem chamberlainref10_Right.mono_l : ∀ k, (∀ y0 y1, LeO (chamberlainref10_Right.l0 k y0 y1) (chamberlainref10_Right.l0 (k + 1) y0 y1))
  | 0 => fun _ _ r h => by simp [chamberlainref10_Right.l0] at h
  | k + 1 => by
    have ih0 := chamberlainref10_Right.mono_l k
    · intro y0 y1
      unfold chamberlainref10_Right.l0
      repeat' first
      | (with_reducible exact ih0 _ _)
      | (with_reducible exact LeO.refl _)
      | (with_reducible exact LeO.none _)
      | (with_reducible refine LeO.ite ?_ ?_)
      | (with_reducible refine LeO.bind ?_ (fun _ => ?_))
      | exact ih0 _ _
      | exact LeO.none _
      | refine LeO.ite ?_ ?_
      | refine LeO.bind ?_ (fun _ => ?_)
theorem chamberlainref10_Right.mono : ∀ a0 k, LeO (chamberlainref10_Right.f k a0) (chamberlainref10_Right.f (k + 1) a0) := by
  intro a0 k
  have ih0 := chamberlainref10_Right.mono_l k
  unfold chamberlainref10_Right.f
  repeat' first
      | (with_reducible exact ih0 _ _)
      | (with_reducible exact LeO.refl _)
      | (with_reducible exact LeO.none _)
      | (with_reducible refine LeO.ite ?_ ?_)
      | (with_reducible refine LeO.bind ?_ (fun _ => ?_))
      | exact ih0 _ _
      | exact LeO.none _
      | refine LeO.ite ?_ ?_
      | refine LeO.bind ?_ (fun _ => ?_)
set_option maxHeartbeats 8000000 in
set_option maxRecDepth 100000 in
theorem chamberlainref10_Right.calls (k : Nat) (A0 : Option Addr) (c0 : Nat) (l0 : List (S39)) (r : Bool) (w : World) (hr0 : Kd.C k39 w A0 l0.length l0) (hc0 : l0.length ≤ c0) (h : chamberlainref10_Right.f k l0 = some r) :
    Calls Try.prog 12 #[.slice A0 l0.length c0] w fun e w' => e = .returned (.bool r) ∧ Drawn0 w w' := by
  have HR0 := Aside0.mk hr0
  have HC0 := Aside0.mk hc0
  clear hr0 hc0
  have H : (chamberlainref10_Right.l0 k l0 0) = some r := h
  clear h
  have H' := Aside0.mk H
  clear H
  go_enter Try.func12, Try.ntmps12
  go_wp2
  go_loopg [3] k (fun kq v3 w' => ∃ (x3_1 : Int), v3 = .int .i64 x3_1 ∧ Aside0 (chamberlainref10_Right.l0 kq l0 x3_1 = some r) ∧ Aside0 (kq ≤ k) ∧ Drawn0 w w')
  case atStart => exact ⟨(0), (by first | rfl | (simp; done) | (simp [*]; done)), H', ⟨Nat.le_refl _⟩, by repeat (first | exact Drawn0.refl _ | apply Drawn0.step)⟩
  case round =>
    clear H'
    try clear c1
    obtain ⟨x3_1, rfl, HA, HK1, ⟨m1, rfl⟩⟩ := hrel
    cases gk with
    | zero => exact absurd HA.out (by simp [chamberlainref10_Right.l0])
    | succ k1 =>
      have H := HA.out
      clear HA
      simp only [chamberlainref10_Right.l0] at H
      by_cases c2 : x3_1 < (l0.length : Int)
      · rw [if_pos c2] at H
        have c2b0 : decide (x3_1 < (l0.length : Int)) = true := decide_eq_true c2
        clear c2
        by_cases c3 : 0 ≤ x3_1
        · rw [if_pos c3] at H
          have c3b0 : decide (0 ≤ x3_1) = true := decide_eq_true c3
          clear c3
          by_cases c4 : ((rd_T39 l0 x3_1).f0) = ((x3_1) % 4294967296)
          · rw [if_pos c4] at H
            have c4b0 : (((rd_T39 l0 x3_1).f0) == ((x3_1) % 4294967296)) = true := beq_iff_eq.mpr c4
            have c4b1 : (((rd_T39 l0 x3_1).f0) != ((x3_1) % 4294967296)) = false := bne_eq_false_iff_eq.mpr c4
            clear c4
            have H' := Aside0.mk H
            clear H
            have p220 : 0 ≤ (x3_1 : Int) := of_decide_eq_true (by first | (with_reducible assumption) | assumption)
            have q220 : x3_1 < (l0.length : Int) := of_decide_eq_true (by first | (with_reducible assumption) | assumption)
            obtain ⟨ad220, A220_3, c220_3, A220_4, c220_4, e220, hx220_0, hx220_1, hx220_2, hx220_3, hx220_4, hx220_5, hl220_3, hi220_3, hl220_4, hi220_4⟩ := at_T39 HR0.out x3_1 p220 q220
            cases e220
            have HR220_3 := Aside0.mk hi220_3
            have HC220_3 := Aside0.mk hl220_3
            clear hi220_3 hl220_3
            have HR220_4 := Aside0.mk hi220_4
            have HC220_4 := Aside0.mk hl220_4
            clear hi220_4 hl220_4
            replace p220 := eq_true p220
            replace q220 := eq_true q220
            go_wp2
            go_roundg k1
            case measure => have := HK1.out; omega
            case rel => exact ⟨(wrap64 (x3_1 + 1)), (by first | rfl | (simp; done) | (simp [*]; done)), H', ⟨by have := HK1.out; omega⟩, by repeat (first | exact Drawn0.refl _ | apply Drawn0.step)⟩
          · rw [if_neg c4] at H
            have c4b0 : (((rd_T39 l0 x3_1).f0) == ((x3_1) % 4294967296)) = false := beq_eq_false_iff_ne.mpr c4
            have c4b1 : (((rd_T39 l0 x3_1).f0) != ((x3_1) % 4294967296)) = true := bne_iff_ne.mpr c4
            obtain rfl := Option.some.inj H
            have p220 : 0 ≤ (x3_1 : Int) := of_decide_eq_true (by first | (with_reducible assumption) | assumption)
            have q220 : x3_1 < (l0.length : Int) := of_decide_eq_true (by first | (with_reducible assumption) | assumption)
            obtain ⟨ad220, A220_3, c220_3, A220_4, c220_4, e220, hx220_0, hx220_1, hx220_2, hx220_3, hx220_4, hx220_5, hl220_3, hi220_3, hl220_4, hi220_4⟩ := at_T39 HR0.out x3_1 p220 q220
            cases e220
            have HR220_3 := Aside0.mk hi220_3
            have HC220_3 := Aside0.mk hl220_3
            clear hi220_3 hl220_3
            have HR220_4 := Aside0.mk hi220_4
            have HC220_4 := Aside0.mk hl220_4
            clear hi220_4 hl220_4
            replace p220 := eq_true p220
            replace q220 := eq_true q220
            go_wp2
            go_ret
            exact ⟨by first | rfl | (simp; done) | (simp [*]; done), by repeat (first | exact Drawn0.refl _ | apply Drawn0.step)⟩
        · rw [if_neg c3] at H
          exact absurd H (by simp)
      · rw [if_neg c2] at H
        have c2b0 : decide (x3_1 < (l0.length : Int)) = false := decide_eq_false c2
        clear c2
        by_cases c5 : (l0.length : Int) > 1
        · rw [if_pos c5] at H
          have c5b0 : decide (1 < (l0.length : Int)) = true := decide_eq_true c5
          have c5b1 : decide (1 < l0.length) = true := decide_eq_true (by omega)
          clear c5
          obtain rfl := Option.some.inj H
          go_wp2
          go_ret
          exact ⟨by first | rfl | (simp; done) | (simp [*]; done), by repeat (first | exact Drawn0.refl _ | apply Drawn0.step)⟩
        · rw [if_neg c5] at H
          have c5b0 : decide (1 < (l0.length : Int)) = false := decide_eq_false c5
          have c5b1 : decide (1 < l0.length) = false := decide_eq_false (by omega)
          clear c5
          obtain rfl := Option.some.inj H
          go_wp2
          go_ret
          exact ⟨by first | rfl | (simp; done) | (simp [*]; done), by repeat (first | exact Drawn0.refl _ | apply Drawn0.step)⟩

/-! ### chamberlainref01_Same: function 26 -/
def chamberlainref01_Same.l0 : Nat → List Int → List Int → Int → Option (Bool)
  | 0, _, _, _ => none
  | k + 1, x0, x1, x5 => if x5 < (x0.length : Int) then (if 0 ≤ x5 then (if x5 < (x1.length : Int) then (if (rd x0 x5) = (rd x1 x5) then (chamberlainref01_Same.l0 k x0 x1 (wrap64 (x5 + 1))) else (some false)) else (none)) else (none)) else (some true)
def chamberlainref01_Same.f (k : Nat) (l0 : List Int) (l1 : List Int) : Option (Bool) := if (l0.length : Int) = (l1.length : Int) then (chamberlainref01_Same.l0 k l0 l1 0) else (some false)
theorem chamberlainref01_Same.mono_l : ∀ k, (∀ y0 y1 y2, LeO (chamberlainref01_Same.l0 k y0 y1 y2) (chamberlainref01_Same.l0 (k + 1) y0 y1 y2))
  | 0 => fun _ _ _ r h => by simp [chamberlainref01_Same.l0] at h
  | k + 1 => by
    have ih0 := chamberlainref01_Same.mono_l k
    · intro y0 y1 y2
      unfold chamberlainref01_Same.l0
      repeat' first
      | (with_reducible exact ih0 _ _ _)
      | (with_reducible exact LeO.refl _)
      | (with_reducible exact LeO.none _)
      | (with_reducible refine LeO.ite ?_ ?_)
      | (with_reducible refine LeO.bind ?_ (fun _ => ?_))
      | exact ih0 _ _ _
      | exact LeO.none _
      | refine LeO.ite ?_ ?_
      | refine LeO.bind ?_ (fun _ => ?_)
theorem chamberlainref01_Same.mono : ∀ a0 a1 k, LeO (chamberlainref01_Same.f k a0 a1) (chamberlainref01_Same.f (k + 1) a0 a1) := by
  intro a0 a1 k
  have ih0 := chamberlainref01_Same.mono_l k
  unfold chamberlainref01_Same.f
  repeat' first
      | (with_reducible exact ih0 _ _ _)
      | (with_reducible exact LeO.refl _)
      | (with_reducible exact LeO.none _)
      | (with_reducible refine LeO.ite ?_ ?_)
      | (with_reducible refine LeO.bind ?_ (fun _ => ?_))
      | exact ih0 _ _ _
      | exact LeO.none _
      | refine LeO.ite ?_ ?_
      | refine LeO.bind ?_ (fun _ => ?_)
set_option maxHeartbeats 8000000 in
set_option maxRecDepth 100000 in
theorem chamberlainref01_Same.calls (k : Nat) (A0 : Option Addr) (c0 : Nat) (l0 : List Int) (A1 : Option Addr) (c1 : Nat) (l1 : List Int) (r : Bool) (w : World) (hr0 : Kd.C (Kd.int .u32) w A0 l0.length l0) (hc0 : l0.length ≤ c0) (hr1 : Kd.C (Kd.int .u32) w A1 l1.length l1) (hc1 : l1.length ≤ c1) (h : chamberlainref01_Same.f k l0 l1 = some r) :
    Calls Try.prog 26 #[.slice A0 l0.length c0, .slice A1 l1.length c1] w fun e w' => e = .returned (.bool r) ∧ Drawn0 w w' := by
  have HR0 := Aside0.mk hr0
  have HC0 := Aside0.mk hc0
  clear hr0 hc0
  have HR1 := Aside0.mk hr1
  have HC1 := Aside0.mk hc1
  clear hr1 hc1
  have H : (if (l0.length : Int) = (l1.length : Int) then (chamberlainref01_Same.l0 k l0 l1 0) else (some false)) = some r := h
  clear h
  by_cases c3 : (l0.length : Int) = (l1.length : Int)
  · rw [if_pos c3] at H
    have c3b0 : ((l0.length : Int) == (l1.length : Int)) = true := beq_iff_eq.mpr c3
    have c3b1 : ((l0.length : Int) != (l1.length : Int)) = false := bne_eq_false_iff_eq.mpr c3
    have c3b2 : (l0.length == l1.length) = true := by first | simpa using c3 | (simp at c3 ⊢; omega)
    clear c3
    have H' := Aside0.mk H
    clear H
    go_enter Try.func26, Try.ntmps26
    go_wp2
    repeat (go_quiet (fail); try go_wp2)
    go_loopg [5] k (fun kq v5 w' => ∃ (x5_1 : Int), v5 = .int .i64 x5_1 ∧ Aside0 (chamberlainref01_Same.l0 kq l0 l1 x5_1 = some r) ∧ Aside0 (kq ≤ k) ∧ Drawn0 w w')
    case atStart => exact ⟨(0), (by first | rfl | (simp; done) | (simp [*]; done)), H', ⟨Nat.le_refl _⟩, by repeat (first | exact Drawn0.refl _ | apply Drawn0.step)⟩
    case round =>
      clear H'
      try clear c1
      try clear c2
      try clear p2
      try clear c3
      try clear c3b0
      try clear c3b1
      try clear c3b2
      obtain ⟨x5_1, rfl, HA, HK1, ⟨m1, rfl⟩⟩ := hrel
      cases gk with
      | zero => exact absurd HA.out (by simp [chamberlainref01_Same.l0])
      | succ k1 =>
        have H := HA.out
        clear HA
        simp only [chamberlainref01_Same.l0] at H
        by_cases c4 : x5_1 < (l0.length : Int)
        · rw [if_pos c4] at H
          have c4b0 : decide (x5_1 < (l0.length : Int)) = true := decide_eq_true c4
          clear c4
          by_cases c5 : 0 ≤ x5_1
          · rw [if_pos c5] at H
            have c5b0 : decide (0 ≤ x5_1) = true := decide_eq_true c5
            clear c5
            by_cases c6 : x5_1 < (l1.length : Int)
            · rw [if_pos c6] at H
              have c6b0 : decide (x5_1 < (l1.length : Int)) = true := decide_eq_true c6
              clear c6
              by_cases c7 : (rd l0 x5_1) = (rd l1 x5_1)
              · rw [if_pos c7] at H
                have c7b0 : ((rd l0 x5_1) == (rd l1 x5_1)) = true := beq_iff_eq.mpr c7
                have c7b1 : ((rd l0 x5_1) != (rd l1 x5_1)) = false := bne_eq_false_iff_eq.mpr c7
                clear c7
                have H' := Aside0.mk H
                clear H
                have p221 : 0 ≤ (x5_1 : Int) := of_decide_eq_true (by first | (with_reducible assumption) | assumption)
                have q221 : x5_1 < (l0.length : Int) := of_decide_eq_true (by first | (with_reducible assumption) | assumption)
                obtain ⟨ad221, e221, hx221_0⟩ := Kd.at_int HR0.out x5_1 p221 q221
                cases e221
                replace p221 := eq_true p221
                replace q221 := eq_true q221
                have p222 : 0 ≤ (x5_1 : Int) := of_decide_eq_true (by first | (with_reducible assumption) | assumption)
                have q222 : x5_1 < (l1.length : Int) := of_decide_eq_true (by first | (with_reducible assumption) | assumption)
                obtain ⟨ad222, e222, hx222_0⟩ := Kd.at_int HR1.out x5_1 p222 q222
                cases e222
                replace p222 := eq_true p222
                replace q222 := eq_true q222
                go_wp2
                repeat (go_quiet (fail); try go_wp2)
                go_roundg k1
                case measure => have := HK1.out; omega
                case rel => exact ⟨(wrap64 (x5_1 + 1)), (by first | rfl | (simp; done) | (simp [*]; done)), H', ⟨by have := HK1.out; omega⟩, by repeat (first | exact Drawn0.refl _ | apply Drawn0.step)⟩
              · rw [if_neg c7] at H
                have c7b0 : ((rd l0 x5_1) == (rd l1 x5_1)) = false := beq_eq_false_iff_ne.mpr c7
                have c7b1 : ((rd l0 x5_1) != (rd l1 x5_1)) = true := bne_iff_ne.mpr c7
                obtain rfl := Option.some.inj H
                have p221 : 0 ≤ (x5_1 : Int) := of_decide_eq_true (by first | (with_reducible assumption) | assumption)
                have q221 : x5_1 < (l0.length : Int) := of_decide_eq_true (by first | (with_reducible assumption) | assumption)
                obtain ⟨ad221, e221, hx221_0⟩ := Kd.at_int HR0.out x5_1 p221 q221
                cases e221
                replace p221 := eq_true p221
                replace q221 := eq_true q221
                have p222 : 0 ≤ (x5_1 : Int) := of_decide_eq_true (by first | (with_reducible assumption) | assumption)
                have q222 : x5_1 < (l1.length : Int) := of_decide_eq_true (by first | (with_reducible assumption) | assumption)
                obtain ⟨ad222, e222, hx222_0⟩ := Kd.at_int HR1.out x5_1 p222 q222
                cases e222
                replace p222 := eq_true p222
                replace q222 := eq_true q222
                go_wp2
                repeat (go_quiet (fail); try go_wp2)
                go_ret
                exact ⟨by first | rfl | (simp; done) | (simp [*]; done), by repeat (first | exact Drawn0.refl _ | apply Drawn0.step)⟩
            · rw [if_neg c6] at H
              exact absurd H (by simp)
          · rw [if_neg c5] at H
            exact absurd H (by simp)
        · rw [if_neg c4] at H
          have c4b0 : decide (x5_1 < (l0.length : Int)) = false := decide_eq_false c4
          clear c4
          obtain rfl := Option.some.inj H
          go_wp2
          repeat (go_quiet (fail); try go_wp2)
          go_ret
          exact ⟨by first | rfl | (simp; done) | (simp [*]; done), by repeat (first | exact Drawn0.refl _ | apply Drawn0.step)⟩
  · rw [if_neg c3] at H
    have c3b0 : ((l0.length : Int) == (l1.length : Int)) = false := beq_eq_false_iff_ne.mpr c3
    have c3b1 : ((l0.length : Int) != (l1.length : Int)) = true := bne_iff_ne.mpr c3
    have c3b2 : (l0.length == l1.length) = false := by first | simpa using c3 | (simp at c3 ⊢; omega)
    obtain rfl := Option.some.inj H
    go_enter Try.func26, Try.ntmps26
    go_wp2
    repeat (go_quiet (fail); try go_wp2)
    go_ret
    exact ⟨by first | rfl | (simp; done) | (simp [*]; done), by repeat (first | exact Drawn0.refl _ | apply Drawn0.step)⟩

/-! ### chamberlainref09_Same: function 30 -/
def chamberlainref09_Same.l0 : Nat → List (S66) → List (S66) → Int → Option (Bool)
  | 0, _, _, _ => none
  | k + 1, x0, x1, x5 => if x5 < (x0.length : Int) then (if 0 ≤ x5 then (if x5 < (x1.length : Int) then (if (!(((rd_T66 x0 x5).f0) == ((rd_T66 x1 x5).f0)) || (!(((rd_T66 x0 x5).f1) == ((rd_T66 x1 x5).f1)) || (!(((rd_T66 x0 x5).f2) == ((rd_T66 x1 x5).f2)) || (!(((rd_T66 x0 x5).f3) == ((rd_T66 x1 x5).f3)) || (!(((rd_T66 x0 x5).f4) == ((rd_T66 x1 x5).f4)) || (!(((rd_T66 x0 x5).f5) == ((rd_T66 x1 x5).f5)) || (!(((rd_T66 x0 x5).f6) == ((rd_T66 x1 x5).f6)) || (!(((rd_T66 x0 x5).f7) == ((rd_T66 x1 x5).f7)) || (!(((rd_T66 x0 x5).f8) == ((rd_T66 x1 x5).f8))))))))))) = true then (some false) else (chamberlainref09_Same.l0 k x0 x1 (wrap64 (x5 + 1)))) else (none)) else (none)) else (some true)
def chamberlainref09_Same.f (k : Nat) (l0 : List (S66)) (l1 : List (S66)) : Option (Bool) := if (l0.length : Int) = (l1.length : Int) then (chamberlainref09_Same.l0 k l0 l1 0) else (some false)
theorem chamberlainref09_Same.mono_l : ∀ k, (∀ y0 y1 y2, LeO (chamberlainref09_Same.l0 k y0 y1 y2) (chamberlainref09_Same.l0 (k + 1) y0 y1 y2))
  | 0 => fun _ _ _ r h => by simp [chamberlainref09_Same.l0] at h
  | k + 1 => by
    have ih0 := chamberlainref09_Same.mono_l k
    · intro y0 y1 y2
      unfold chamberlainref09_Same.l0
      repeat' first
      | (with_reducible exact ih0 _ _ _)
      | (with_reducible exact LeO.refl _)
      | (with_reducible exact LeO.none _)
      | (with_reducible refine LeO.ite ?_ ?_)
      | (with_reducible refine LeO.bind ?_ (fun _ => ?_))
      | exact ih0 _ _ _
      | exact LeO.none _
      | refine LeO.ite ?_ ?_
      | refine LeO.bind ?_ (fun _ => ?_)
theorem chamberlainref09_Same.mono : ∀ a0 a1 k, LeO (chamberlainref09_Same.f k a0 a1) (chamberlainref09_Same.f (k + 1) a0 a1) := by
  intro a0 a1 k
  have ih0 := chamberlainref09_Same.mono_l k
  unfold chamberlainref09_Same.f
  repeat' first
      | (with_reducible exact ih0 _ _ _)
      | (with_reducible exact LeO.refl _)
      | (with_reducible exact LeO.none _)
      | (with_reducible refine LeO.ite ?_ ?_)
      | (with_reducible refine LeO.bind ?_ (fun _ => ?_))
      | exact ih0 _ _ _
      | exact LeO.none _
      | refine LeO.ite ?_ ?_
      | refine LeO.bind ?_ (fun _ => ?_)
set_option maxHeartbeats 8000000 in
set_option maxRecDepth 100000 in
theorem chamberlainref09_Same.calls (k : Nat) (A0 : Option Addr) (c0 : Nat) (l0 : List (S66)) (A1 : Option Addr) (c1 : Nat) (l1 : List (S66)) (r : Bool) (w : World) (hr0 : Kd.C k66 w A0 l0.length l0) (hc0 : l0.length ≤ c0) (hr1 : Kd.C k66 w A1 l1.length l1) (hc1 : l1.length ≤ c1) (h : chamberlainref09_Same.f k l0 l1 = some r) :
    Calls Try.prog 30 #[.slice A0 l0.length c0, .slice A1 l1.length c1] w fun e w' => e = .returned (.bool r) ∧ Drawn0 w w' := by
  have hu66 := Try.underlying66
  have HR0 := Aside0.mk hr0
  have HC0 := Aside0.mk hc0
  clear hr0 hc0
  have HR1 := Aside0.mk hr1
  have HC1 := Aside0.mk hc1
  clear hr1 hc1
  have H : (if (l0.length : Int) = (l1.length : Int) then (chamberlainref09_Same.l0 k l0 l1 0) else (some false)) = some r := h
  clear h
  by_cases c3 : (l0.length : Int) = (l1.length : Int)
  · rw [if_pos c3] at H
    have c3b0 : ((l0.length : Int) == (l1.length : Int)) = true := beq_iff_eq.mpr c3
    have c3b1 : ((l0.length : Int) != (l1.length : Int)) = false := bne_eq_false_iff_eq.mpr c3
    have c3b2 : (l0.length == l1.length) = true := by first | simpa using c3 | (simp at c3 ⊢; omega)
    clear c3
    have H' := Aside0.mk H
    clear H
    go_enter Try.func30, Try.ntmps30
    go_wp2
    repeat (go_quiet (fail); try go_wp2)
    go_loopg [5] k (fun kq v5 w' => ∃ (x5_1 : Int), v5 = .int .i64 x5_1 ∧ Aside0 (chamberlainref09_Same.l0 kq l0 l1 x5_1 = some r) ∧ Aside0 (kq ≤ k) ∧ Drawn0 w w')
    case atStart => exact ⟨(0), (by first | rfl | (simp; done) | (simp [*]; done)), H', ⟨Nat.le_refl _⟩, by repeat (first | exact Drawn0.refl _ | apply Drawn0.step)⟩
    case round =>
      clear H'
      try clear c1
      try clear p2
      try clear c3
      try clear c3b0
      try clear c3b1
      try clear c3b2
      obtain ⟨x5_1, rfl, HA, HK1, ⟨m1, rfl⟩⟩ := hrel
      cases gk with
      | zero => exact absurd HA.out (by simp [chamberlainref09_Same.l0])
      | succ k1 =>
        have H := HA.out
        clear HA
        simp only [chamberlainref09_Same.l0] at H
        by_cases c4 : x5_1 < (l0.length : Int)
        · rw [if_pos c4] at H
          have c4b0 : decide (x5_1 < (l0.length : Int)) = true := decide_eq_true c4
          clear c4
          by_cases c5 : 0 ≤ x5_1
          · rw [if_pos c5] at H
            have c5b0 : decide (0 ≤ x5_1) = true := decide_eq_true c5
            clear c5
            by_cases c6 : x5_1 < (l1.length : Int)
            · rw [if_pos c6] at H
              have c6b0 : decide (x5_1 < (l1.length : Int)) = true := decide_eq_true c6
              clear c6
              by_cases c7 : (!(((rd_T66 l0 x5_1).f0) == ((rd_T66 l1 x5_1).f0)) || (!(((rd_T66 l0 x5_1).f1) == ((rd_T66 l1 x5_1).f1)) || (!(((rd_T66 l0 x5_1).f2) == ((rd_T66 l1 x5_1).f2)) || (!(((rd_T66 l0 x5_1).f3) == ((rd_T66 l1 x5_1).f3)) || (!(((rd_T66 l0 x5_1).f4) == ((rd_T66 l1 x5_1).f4)) || (!(((rd_T66 l0 x5_1).f5) == ((rd_T66 l1 x5_1).f5)) || (!(((rd_T66 l0 x5_1).f6) == ((rd_T66 l1 x5_1).f6)) || (!(((rd_T66 l0 x5_1).f7) == ((rd_T66 l1 x5_1).f7)) || (!(((rd_T66 l0 x5_1).f8) == ((rd_T66 l1 x5_1).f8))))))))))) = true
              · rw [if_pos c7] at H
                have c7b0 : (!(((rd_T66 l0 x5_1).f0) == ((rd_T66 l1 x5_1).f0)) || (!(((rd_T66 l0 x5_1).f1) == ((rd_T66 l1 x5_1).f1)) || (!(((rd_T66 l0 x5_1).f2) == ((rd_T66 l1 x5_1).f2)) || (!(((rd_T66 l0 x5_1).f3) == ((rd_T66 l1 x5_1).f3)) || (!(((rd_T66 l0 x5_1).f4) == ((rd_T66 l1 x5_1).f4)) || (!(((rd_T66 l0 x5_1).f5) == ((rd_T66 l1 x5_1).f5)) || (!(((rd_T66 l0 x5_1).f6) == ((rd_T66 l1 x5_1).f6)) || (!(((rd_T66 l0 x5_1).f7) == ((rd_T66 l1 x5_1).f7)) || (!(((rd_T66 l0 x5_1).f8) == ((rd_T66 l1 x5_1).f8))))))))))) = true := c7
                clear c7
                obtain rfl := Option.some.inj H
                have p223 : 0 ≤ (x5_1 : Int) := of_decide_eq_true (by first | (with_reducible assumption) | assumption)
                have q223 : x5_1 < (l0.length : Int) := of_decide_eq_true (by first | (with_reducible assumption) | assumption)
                obtain ⟨ad223, e223, hx223_0, hx223_1, hx223_2, hx223_3, hx223_4, hx223_5, hx223_6, hx223_7, hx223_8⟩ := at_T66 HR0.out x5_1 p223 q223
                cases e223
                replace p223 := eq_true p223
                replace q223 := eq_true q223
                have p224 : 0 ≤ (x5_1 : Int) := of_decide_eq_true (by first | (with_reducible assumption) | assumption)
                have q224 : x5_1 < (l1.length : Int) := of_decide_eq_true (by first | (with_reducible assumption) | assumption)
                obtain ⟨ad224, e224, hx224_0, hx224_1, hx224_2, hx224_3, hx224_4, hx224_5, hx224_6, hx224_7, hx224_8⟩ := at_T66 HR1.out x5_1 p224 q224
                cases e224
                replace p224 := eq_true p224
                replace q224 := eq_true q224
                go_wp2
                repeat (go_quiet (fail); try go_wp2)
                go_ret
                exact ⟨by first | rfl | (simp; done) | (simp [*]; done), by repeat (first | exact Drawn0.refl _ | apply Drawn0.step)⟩
              · rw [if_neg c7] at H
                have c7b0 : (!(((rd_T66 l0 x5_1).f0) == ((rd_T66 l1 x5_1).f0)) || (!(((rd_T66 l0 x5_1).f1) == ((rd_T66 l1 x5_1).f1)) || (!(((rd_T66 l0 x5_1).f2) == ((rd_T66 l1 x5_1).f2)) || (!(((rd_T66 l0 x5_1).f3) == ((rd_T66 l1 x5_1).f3)) || (!(((rd_T66 l0 x5_1).f4) == ((rd_T66 l1 x5_1).f4)) || (!(((rd_T66 l0 x5_1).f5) == ((rd_T66 l1 x5_1).f5)) || (!(((rd_T66 l0 x5_1).f6) == ((rd_T66 l1 x5_1).f6)) || (!(((rd_T66 l0 x5_1).f7) == ((rd_T66 l1 x5_1).f7)) || (!(((rd_T66 l0 x5_1).f8) == ((rd_T66 l1 x5_1).f8))))))))))) = false := by simpa using c7
                clear c7
                have H' := Aside0.mk H
                clear H
                have p223 : 0 ≤ (x5_1 : Int) := of_decide_eq_true (by first | (with_reducible assumption) | assumption)
                have q223 : x5_1 < (l0.length : Int) := of_decide_eq_true (by first | (with_reducible assumption) | assumption)
                obtain ⟨ad223, e223, hx223_0, hx223_1, hx223_2, hx223_3, hx223_4, hx223_5, hx223_6, hx223_7, hx223_8⟩ := at_T66 HR0.out x5_1 p223 q223
                cases e223
                replace p223 := eq_true p223
                replace q223 := eq_true q223
                have p224 : 0 ≤ (x5_1 : Int) := of_decide_eq_true (by first | (with_reducible assumption) | assumption)
                have q224 : x5_1 < (l1.length : Int) := of_decide_eq_true (by first | (with_reducible assumption) | assumption)
                obtain ⟨ad224, e224, hx224_0, hx224_1, hx224_2, hx224_3, hx224_4, hx224_5, hx224_6, hx224_7, hx224_8⟩ := at_T66 HR1.out x5_1 p224 q224
                cases e224
                replace p224 := eq_true p224
                replace q224 := eq_true q224
                go_wp2
                repeat (go_quiet (fail); try go_wp2)
                go_roundg k1
                case measure => have := HK1.out; omega
                case rel => exact ⟨(wrap64 (x5_1 + 1)), (by first | rfl | (simp; done) | (simp [*]; done)), H', ⟨by have := HK1.out; omega⟩, by repeat (first | exact Drawn0.refl _ | apply Drawn0.step)⟩
            · rw [if_neg c6] at H
              exact absurd H (by simp)
          · rw [if_neg c5] at H
            exact absurd H (by simp)
        · rw [if_neg c4] at H
          have c4b0 : decide (x5_1 < (l0.length : Int)) = false := decide_eq_false c4
          clear c4
          obtain rfl := Option.some.inj H
          go_wp2
          repeat (go_quiet (fail); try go_wp2)
          go_ret
          exact ⟨by first | rfl | (simp; done) | (simp [*]; done), by repeat (first | exact Drawn0.refl _ | apply Drawn0.step)⟩
  · rw [if_neg c3] at H
    have c3b0 : ((l0.length : Int) == (l1.length : Int)) = false := beq_eq_false_iff_ne.mpr c3
    have c3b1 : ((l0.length : Int) != (l1.length : Int)) = true := bne_iff_ne.mpr c3
    have c3b2 : (l0.length == l1.length) = false := by first | simpa using c3 | (simp at c3 ⊢; omega)
    obtain rfl := Option.some.inj H
    go_enter Try.func30, Try.ntmps30
    go_wp2
    repeat (go_quiet (fail); try go_wp2)
    go_ret
    exact ⟨by first | rfl | (simp; done) | (simp [*]; done), by repeat (first | exact Drawn0.refl _ | apply Drawn0.step)⟩

/-! ### chamberlainref10_One: function 20 -/
def chamberlainref10_One.f (k : Nat) (a0_0 : Int) (a0_1 : Int) (a0_2 : Int) (l0_3 : List Int) (l0_4 : List (S66)) (a0_5 : Bool) (a1_0 : Int) (a1_1 : Int) (a1_2 : Int) (l1_3 : List Int) (l1_4 : List (S66)) (a1_5 : Bool) : Option (Bool) := if a0_0 = a1_0 then (if a0_1 = a1_1 then (if a0_2 = a1_2 then (if (a0_5 == a1_5) = true then ((chamberlainref01_Same.f k l0_3 l1_3).bind fun t227 => (if t227 = true then ((chamberlainref09_Same.f k l0_4 l1_4).bind fun t228 => (some t228)) else (some false))) else (some false)) else (some false)) else (some false)) else (some false)
theorem chamberlainref10_One.mono : ∀ a0 a1 a2 a3 a4 a5 a6 a7 a8 a9 a10 a11 k, LeO (chamberlainref10_One.f k a0 a1 a2 a3 a4 a5 a6 a7 a8 a9 a10 a11) (chamberlainref10_One.f (k + 1) a0 a1 a2 a3 a4 a5 a6 a7 a8 a9 a10 a11) := by
  intro a0 a1 a2 a3 a4 a5 a6 a7 a8 a9 a10 a11 k
  unfold chamberlainref10_One.f
  repeat' first
      | (with_reducible exact chamberlainref01_Same.mono _ _ _)
      | (with_reducible exact chamberlainref09_Same.mono _ _ _)
      | (with_reducible exact LeO.refl _)
      | (with_reducible exact LeO.none _)
      | (with_reducible refine LeO.ite ?_ ?_)
      | (with_reducible refine LeO.bind ?_ (fun _ => ?_))
      | exact chamberlainref01_Same.mono _ _ _
      | exact chamberlainref09_Same.mono _ _ _
      | exact LeO.none _
      | refine LeO.ite ?_ ?_
      | refine LeO.bind ?_ (fun _ => ?_)
set_option maxHeartbeats 8000000 in
set_option maxRecDepth 100000 in
theorem chamberlainref10_One.calls (k : Nat) (a0_0 : Int) (a0_1 : Int) (a0_2 : Int) (A0_3 : Option Addr) (c0_3 : Nat) (l0_3 : List Int) (A0_4 : Option Addr) (c0_4 : Nat) (l0_4 : List (S66)) (a0_5 : Bool) (a1_0 : Int) (a1_1 : Int) (a1_2 : Int) (A1_3 : Option Addr) (c1_3 : Nat) (l1_3 : List Int) (A1_4 : Option Addr) (c1_4 : Nat) (l1_4 : List (S66)) (a1_5 : Bool) (r : Bool) (w : World) (hr0_3 : Kd.C (Kd.int .u32) w A0_3 l0_3.length l0_3) (hc0_3 : l0_3.length ≤ c0_3) (hr0_4 : Kd.C k66 w A0_4 l0_4.length l0_4) (hc0_4 : l0_4.length ≤ c0_4) (hr1_3 : Kd.C (Kd.int .u32) w A1_3 l1_3.length l1_3) (hc1_3 : l1_3.length ≤ c1_3) (hr1_4 : Kd.C k66 w A1_4 l1_4.length l1_4) (hc1_4 : l1_4.length ≤ c1_4) (h : chamberlainref10_One.f k a0_0 a0_1 a0_2 l0_3 l0_4 a0_5 a1_0 a1_1 a1_2 l1_3 l1_4 a1_5 = some r) :
    Calls Try.prog 20 #[.agg #[.int .u32 a0_0, .int .u32 a0_1, .int .u32 a0_2, .slice A0_3 l0_3.length c0_3, .slice A0_4 l0_4.length c0_4, .bool a0_5], .agg #[.int .u32 a1_0, .int .u32 a1_1, .int .u32 a1_2, .slice A1_3 l1_3.length c1_3, .slice A1_4 l1_4.length c1_4, .bool a1_5]] w fun e w' => e = .returned (.bool r) ∧ Below w.heap.size w w' := by
  have hu39 := Try.underlying39
  have HR0_3 := Aside0.mk hr0_3
  have HC0_3 := Aside0.mk hc0_3
  clear hr0_3 hc0_3
  have HR0_4 := Aside0.mk hr0_4
  have HC0_4 := Aside0.mk hc0_4
  clear hr0_4 hc0_4
  have HR1_3 := Aside0.mk hr1_3
  have HC1_3 := Aside0.mk hc1_3
  clear hr1_3 hc1_3
  have HR1_4 := Aside0.mk hr1_4
  have HC1_4 := Aside0.mk hc1_4
  clear hr1_4 hc1_4
  have HB := Aside0.mk (Below.refl w.heap.size w)
  have H : (if a0_0 = a1_0 then (if a0_1 = a1_1 then (if a0_2 = a1_2 then (if (a0_5 == a1_5) = true then ((chamberlainref01_Same.f k l0_3 l1_3).bind fun t227 => (if t227 = true then ((chamberlainref09_Same.f k l0_4 l1_4).bind fun t228 => (some t228)) else (some false))) else (some false)) else (some false)) else (some false)) else (some false)) = some r := h
  clear h
  by_cases c3 : a0_0 = a1_0
  · rw [if_pos c3] at H
    have c3b0 : (a0_0 == a1_0) = true := beq_iff_eq.mpr c3
    have c3b1 : (a0_0 != a1_0) = false := bne_eq_false_iff_eq.mpr c3
    clear c3
    by_cases c4 : a0_1 = a1_1
    · rw [if_pos c4] at H
      have c4b0 : (a0_1 == a1_1) = true := beq_iff_eq.mpr c4
      have c4b1 : (a0_1 != a1_1) = false := bne_eq_false_iff_eq.mpr c4
      clear c4
      by_cases c5 : a0_2 = a1_2
      · rw [if_pos c5] at H
        have c5b0 : (a0_2 == a1_2) = true := beq_iff_eq.mpr c5
        have c5b1 : (a0_2 != a1_2) = false := bne_eq_false_iff_eq.mpr c5
        clear c5
        by_cases c6 : (a0_5 == a1_5) = true
        · rw [if_pos c6] at H
          have c6b0 : (a0_5 == a1_5) = true := c6
          (try (have c6b1 : decide (a0_5 = a1_5) = true := by simpa using c6))
          (try (have c6b2 : (a0_5 == a1_5) = true := by simpa using c6))
          clear c6
          replace H := Option.bind_eq_some_iff.mp H
          obtain ⟨t227, A70, H⟩ := H
          replace H : (if t227 = true then ((chamberlainref09_Same.f k l0_4 l1_4).bind fun t228 => (some t228)) else (some false)) = some r := H
          have A7 := Aside0.mk A70
          clear A70
          by_cases c8 : t227 = true
          · subst c8
            have H1 : ((chamberlainref09_Same.f k l0_4 l1_4).bind fun t228 => (some t228)) = some r := by rw [if_pos rfl] at H; exact H
            clear H
            have H := H1
            clear H1
            replace H := Option.bind_eq_some_iff.mp H
            obtain ⟨t228, A90, H⟩ := H
            replace H : (some t228) = some r := H
            have A9 := Aside0.mk A90
            clear A90
            obtain rfl := Option.some.inj H
            go_enter Try.func20, Try.ntmps20
            go_wp2_with (first | ((with_reducible refine gate_dst (N := 2) rfl ?_); refine box_event ?hg (N := 2) ?hd (cs := #[.int .u32 a0_0, .int .u32 a0_1, .int .u32 a0_2, .slice A0_3 l0_3.length c0_3, .slice A0_4 l0_4.length c0_4, .bool a0_5]) (t := 39) ?hr ?_; (case hd => rfl); (case hg => rfl); (case hr => first | (go_simp; done) | (go_simp; rfl)); intro gb225 hg w10 hbox hb; have n0_ := Aside0.mk (below_step (by repeat (first | (with_reducible first | exact HB.out | apply below_alloc | apply pw_below_drewN | apply below_drew1) | exact HB.out)) hb); have n1_ := Aside0.mk (hbox); have n2_ := Aside0.mk ((by rw [hg]; exact (below_size (by repeat (first | (with_reducible first | exact HB.out | apply below_alloc | apply pw_below_drewN | apply below_drew1) | exact HB.out))) : w.heap.size ≤ gb225)); have n3_ := Aside0.mk ((by rw [hg]; exact (below_size (by repeat (first | (with_reducible first | exact HB.out | apply below_alloc | apply pw_below_drewN | apply below_drew1) | exact HB.out))) : w.heap.size ≤ gb225)); clear HB; have HB := n0_; have BK225 := n1_; have GW225 := n2_; have GE225 := n3_; clear n0_ n1_ n2_ n3_; clear hb hbox hg) | ((with_reducible refine gate_dst (N := 3) rfl ?_); refine box_event ?hg (N := 3) ?hd (cs := #[.int .u32 a1_0, .int .u32 a1_1, .int .u32 a1_2, .slice A1_3 l1_3.length c1_3, .slice A1_4 l1_4.length c1_4, .bool a1_5]) (t := 39) ?hr ?_; (case hd => rfl); (case hg => rfl); (case hr => first | (go_simp; done) | (go_simp; rfl)); intro gb226 hg w11 hbox hb; have n0_ := Aside0.mk (blk_below (g := gb225) (o := .cells #[.int .u32 a0_0, .int .u32 a0_1, .int .u32 a0_2, .slice A0_3 l0_3.length c0_3, .slice A0_4 l0_4.length c0_4, .bool a0_5] 39 (0, 0)) (by (with_reducible repeat (first | refine blk_drewN ?_ _ | refine blk_drew ?_ | refine blk_alloc ?_ _)); exact BK225.out) hb); have n1_ := Aside0.mk (below_step (by repeat (first | (with_reducible first | exact HB.out | apply below_alloc | apply pw_below_drewN | apply below_drew1 | refine below_set ?_ GE225.out) | exact HB.out)) hb); have n2_ := Aside0.mk (hbox); have n3_ := Aside0.mk ((by rw [hg]; exact (below_size (by repeat (first | (with_reducible first | exact HB.out | apply below_alloc | apply pw_below_drewN | apply below_drew1 | refine below_set ?_ GE225.out) | exact HB.out))) : w.heap.size ≤ gb226)); have n4_ := Aside0.mk ((by rw [hg]; exact (below_size (by repeat (first | (with_reducible first | exact HB.out | apply below_alloc | apply pw_below_drewN | apply below_drew1 | refine below_set ?_ GE225.out) | exact HB.out))) : w.heap.size ≤ gb226)); have n5_ := Aside0.mk ((by rw [hg]; exact Nat.ne_of_lt (blk_lt (g := gb225) (o := .cells #[.int .u32 a0_0, .int .u32 a0_1, .int .u32 a0_2, .slice A0_3 l0_3.length c0_3, .slice A0_4 l0_4.length c0_4, .bool a0_5] 39 (0, 0)) (by (with_reducible repeat (first | refine blk_drewN ?_ _ | refine blk_drew ?_ | refine blk_alloc ?_ _)); exact BK225.out)) : gb225 ≠ gb226)); have n6_ := Aside0.mk ((by rw [hg]; exact Nat.ne_of_gt (blk_lt (g := gb225) (o := .cells #[.int .u32 a0_0, .int .u32 a0_1, .int .u32 a0_2, .slice A0_3 l0_3.length c0_3, .slice A0_4 l0_4.length c0_4, .bool a0_5] 39 (0, 0)) (by (with_reducible repeat (first | refine blk_drewN ?_ _ | refine blk_drew ?_ | refine blk_alloc ?_ _)); exact BK225.out)) : gb226 ≠ gb225)); clear BK225; clear HB; have BK225 := n0_; have HB := n1_; have BK226 := n2_; have GW226 := n3_; have GE226 := n4_; have NB225_226 := n5_; have NB226_225 := n6_; clear n0_ n1_ n2_ n3_ n4_ n5_ n6_; clear hb hbox hg; have hnb12 := NB225_226.out; have hnc12 := NB226_225.out; have hcz13_0 : w11.cell? ⟨gb225, 0, none⟩ = some (.int .u32 a0_0) := (blk_cell BK225.out 0).trans rfl; have hcz13_1 : w11.cell? ⟨gb225, 1, none⟩ = some (.int .u32 a0_1) := (blk_cell BK225.out 1).trans rfl; have hcz13_2 : w11.cell? ⟨gb225, 2, none⟩ = some (.int .u32 a0_2) := (blk_cell BK225.out 2).trans rfl; have hcz13_3 : w11.cell? ⟨gb225, 3, none⟩ = some (.slice A0_3 l0_3.length c0_3) := (blk_cell BK225.out 3).trans rfl; have hcz13_4 : w11.cell? ⟨gb225, 4, none⟩ = some (.slice A0_4 l0_4.length c0_4) := (blk_cell BK225.out 4).trans rfl; have hcz13_5 : w11.cell? ⟨gb225, 5, none⟩ = some (.bool a0_5) := (blk_cell BK225.out 5).trans rfl; have hfz13_0 := blk_frozen BK225.out 0; have hfz13_1 := blk_frozen BK225.out 1; have hfz13_2 := blk_frozen BK225.out 2; have hfz13_3 := blk_frozen BK225.out 3; have hfz13_4 := blk_frozen BK225.out 4; have hfz13_5 := blk_frozen BK225.out 5; have hcz14_0 : w11.cell? ⟨gb226, 0, none⟩ = some (.int .u32 a1_0) := (blk_cell BK226.out 0).trans rfl; have hcz14_1 : w11.cell? ⟨gb226, 1, none⟩ = some (.int .u32 a1_1) := (blk_cell BK226.out 1).trans rfl; have hcz14_2 : w11.cell? ⟨gb226, 2, none⟩ = some (.int .u32 a1_2) := (blk_cell BK226.out 2).trans rfl; have hcz14_3 : w11.cell? ⟨gb226, 3, none⟩ = some (.slice A1_3 l1_3.length c1_3) := (blk_cell BK226.out 3).trans rfl; have hcz14_4 : w11.cell? ⟨gb226, 4, none⟩ = some (.slice A1_4 l1_4.length c1_4) := (blk_cell BK226.out 4).trans rfl; have hcz14_5 : w11.cell? ⟨gb226, 5, none⟩ = some (.bool a1_5) := (blk_cell BK226.out 5).trans rfl; have hfz14_0 := blk_frozen BK226.out 0; have hfz14_1 := blk_frozen BK226.out 1; have hfz14_2 := blk_frozen BK226.out 2; have hfz14_3 := blk_frozen BK226.out 3; have hfz14_4 := blk_frozen BK226.out 4; have hfz14_5 := blk_frozen BK226.out 5) | (go_at_call 26; (with_reducible refine (chamberlainref01_Same.calls k _ _ l0_3 _ _ l1_3 true _ ?side1 ?side2 ?side3 ?side4 A7.out).mono ?_); (case side1 => repeat (first | exact (Kd.C_below HR0_3.out HB.out) | (with_reducible refine Kd.C_alloc ?_ _) | (with_reducible refine Kd.C_drewN ?_ _) | (with_reducible refine Kd.C_drew ?_))); (case side2 => exact HC0_3.out); (case side3 => repeat (first | exact (Kd.C_below HR1_3.out HB.out) | (with_reducible refine Kd.C_alloc ?_ _) | (with_reducible refine Kd.C_drewN ?_ _) | (with_reducible refine Kd.C_drew ?_))); (case side4 => exact HC1_3.out); rintro e w' ⟨rfl, ⟨nd, rfl⟩⟩) | (go_at_call 30; (with_reducible refine (chamberlainref09_Same.calls k _ _ l0_4 _ _ l1_4 t228 _ ?side1 ?side2 ?side3 ?side4 A9.out).mono ?_); (case side1 => repeat (first | exact (Kd.C_below HR0_4.out (by repeat (first | (with_reducible first | exact HB.out | apply below_alloc | apply pw_below_drewN | apply below_drew1 | refine below_set ?_ GE225.out | refine below_set ?_ GE226.out) | exact HB.out))) | (with_reducible refine Kd.C_alloc ?_ _) | (with_reducible refine Kd.C_drewN ?_ _) | (with_reducible refine Kd.C_drew ?_))); (case side2 => exact HC0_4.out); (case side3 => repeat (first | exact (Kd.C_below HR1_4.out (by repeat (first | (with_reducible first | exact HB.out | apply below_alloc | apply pw_below_drewN | apply below_drew1 | refine below_set ?_ GE225.out | refine below_set ?_ GE226.out) | exact HB.out))) | (with_reducible refine Kd.C_alloc ?_ _) | (with_reducible refine Kd.C_drewN ?_ _) | (with_reducible refine Kd.C_drew ?_))); (case side4 => exact HC1_4.out); rintro e w' ⟨rfl, ⟨nd, rfl⟩⟩))
            go_ret
            exact ⟨by first | rfl | (simp [errW_none, errW_some] <;> rfl) | (simp [*, errW_none, errW_some] <;> rfl), by repeat (first | (with_reducible first | exact HB.out | apply below_alloc | apply pw_below_drewN | apply below_drew1 | refine below_set ?_ GE225.out | refine below_set ?_ GE226.out) | exact HB.out)⟩
          · replace c8 := Bool.eq_false_iff.mpr c8
            subst c8
            have H1 : (some false) = some r := by rw [if_neg (show ¬ (false = true) by decide)] at H; exact H
            clear H
            have H := H1
            clear H1
            obtain rfl := Option.some.inj H
            go_enter Try.func20, Try.ntmps20
            go_wp2_with (first | ((with_reducible refine gate_dst (N := 2) rfl ?_); refine box_event ?hg (N := 2) ?hd (cs := #[.int .u32 a0_0, .int .u32 a0_1, .int .u32 a0_2, .slice A0_3 l0_3.length c0_3, .slice A0_4 l0_4.length c0_4, .bool a0_5]) (t := 39) ?hr ?_; (case hd => rfl); (case hg => rfl); (case hr => first | (go_simp; done) | (go_simp; rfl)); intro gb225 hg w15 hbox hb; have n0_ := Aside0.mk (below_step (by repeat (first | (with_reducible first | exact HB.out | apply below_alloc | apply pw_below_drewN | apply below_drew1) | exact HB.out)) hb); have n1_ := Aside0.mk (hbox); have n2_ := Aside0.mk ((by rw [hg]; exact (below_size (by repeat (first | (with_reducible first | exact HB.out | apply below_alloc | apply pw_below_drewN | apply below_drew1) | exact HB.out))) : w.heap.size ≤ gb225)); have n3_ := Aside0.mk ((by rw [hg]; exact (below_size (by repeat (first | (with_reducible first | exact HB.out | apply below_alloc | apply pw_below_drewN | apply below_drew1) | exact HB.out))) : w.heap.size ≤ gb225)); clear HB; have HB := n0_; have BK225 := n1_; have GW225 := n2_; have GE225 := n3_; clear n0_ n1_ n2_ n3_; clear hb hbox hg) | ((with_reducible refine gate_dst (N := 3) rfl ?_); refine box_event ?hg (N := 3) ?hd (cs := #[.int .u32 a1_0, .int .u32 a1_1, .int .u32 a1_2, .slice A1_3 l1_3.length c1_3, .slice A1_4 l1_4.length c1_4, .bool a1_5]) (t := 39) ?hr ?_; (case hd => rfl); (case hg => rfl); (case hr => first | (go_simp; done) | (go_simp; rfl)); intro gb226 hg w16 hbox hb; have n0_ := Aside0.mk (blk_below (g := gb225) (o := .cells #[.int .u32 a0_0, .int .u32 a0_1, .int .u32 a0_2, .slice A0_3 l0_3.length c0_3, .slice A0_4 l0_4.length c0_4, .bool a0_5] 39 (0, 0)) (by (with_reducible repeat (first | refine blk_drewN ?_ _ | refine blk_drew ?_ | refine blk_alloc ?_ _)); exact BK225.out) hb); have n1_ := Aside0.mk (below_step (by repeat (first | (with_reducible first | exact HB.out | apply below_alloc | apply pw_below_drewN | apply below_drew1 | refine below_set ?_ GE225.out) | exact HB.out)) hb); have n2_ := Aside0.mk (hbox); have n3_ := Aside0.mk ((by rw [hg]; exact (below_size (by repeat (first | (with_reducible first | exact HB.out | apply below_alloc | apply pw_below_drewN | apply below_drew1 | refine below_set ?_ GE225.out) | exact HB.out))) : w.heap.size ≤ gb226)); have n4_ := Aside0.mk ((by rw [hg]; exact (below_size (by repeat (first | (with_reducible first | exact HB.out | apply below_alloc | apply pw_below_drewN | apply below_drew1 | refine below_set ?_ GE225.out) | exact HB.out))) : w.heap.size ≤ gb226)); have n5_ := Aside0.mk ((by rw [hg]; exact Nat.ne_of_lt (blk_lt (g := gb225) (o := .cells #[.int .u32 a0_0, .int .u32 a0_1, .int .u32 a0_2, .slice A0_3 l0_3.length c0_3, .slice A0_4 l0_4.length c0_4, .bool a0_5] 39 (0, 0)) (by (with_reducible repeat (first | refine blk_drewN ?_ _ | refine blk_drew ?_ | refine blk_alloc ?_ _)); exact BK225.out)) : gb225 ≠ gb226)); have n6_ := Aside0.mk ((by rw [hg]; exact Nat.ne_of_gt (blk_lt (g := gb225) (o := .cells #[.int .u32 a0_0, .int .u32 a0_1, .int .u32 a0_2, .slice A0_3 l0_3.length c0_3, .slice A0_4 l0_4.length c0_4, .bool a0_5] 39 (0, 0)) (by (with_reducible repeat (first | refine blk_drewN ?_ _ | refine blk_drew ?_ | refine blk_alloc ?_ _)); exact BK225.out)) : gb226 ≠ gb225)); clear BK225; clear HB; have BK225 := n0_; have HB := n1_; have BK226 := n2_; have GW226 := n3_; have GE226 := n4_; have NB225_226 := n5_; have NB226_225 := n6_; clear n0_ n1_ n2_ n3_ n4_ n5_ n6_; clear hb hbox hg; have hnb17 := NB225_226.out; have hnc17 := NB226_225.out; have hcz18_0 : w16.cell? ⟨gb225, 0, none⟩ = some (.int .u32 a0_0) := (blk_cell BK225.out 0).trans rfl; have hcz18_1 : w16.cell? ⟨gb225, 1, none⟩ = some (.int .u32 a0_1) := (blk_cell BK225.out 1).trans rfl; have hcz18_2 : w16.cell? ⟨gb225, 2, none⟩ = some (.int .u32 a0_2) := (blk_cell BK225.out 2).trans rfl; have hcz18_3 : w16.cell? ⟨gb225, 3, none⟩ = some (.slice A0_3 l0_3.length c0_3) := (blk_cell BK225.out 3).trans rfl; have hcz18_4 : w16.cell? ⟨gb225, 4, none⟩ = some (.slice A0_4 l0_4.length c0_4) := (blk_cell BK225.out 4).trans rfl; have hcz18_5 : w16.cell? ⟨gb225, 5, none⟩ = some (.bool a0_5) := (blk_cell BK225.out 5).trans rfl; have hfz18_0 := blk_frozen BK225.out 0; have hfz18_1 := blk_frozen BK225.out 1; have hfz18_2 := blk_frozen BK225.out 2; have hfz18_3 := blk_frozen BK225.out 3; have hfz18_4 := blk_frozen BK225.out 4; have hfz18_5 := blk_frozen BK225.out 5; have hcz19_0 : w16.cell? ⟨gb226, 0, none⟩ = some (.int .u32 a1_0) := (blk_cell BK226.out 0).trans rfl; have hcz19_1 : w16.cell? ⟨gb226, 1, none⟩ = some (.int .u32 a1_1) := (blk_cell BK226.out 1).trans rfl; have hcz19_2 : w16.cell? ⟨gb226, 2, none⟩ = some (.int .u32 a1_2) := (blk_cell BK226.out 2).trans rfl; have hcz19_3 : w16.cell? ⟨gb226, 3, none⟩ = some (.slice A1_3 l1_3.length c1_3) := (blk_cell BK226.out 3).trans rfl; have hcz19_4 : w16.cell? ⟨gb226, 4, none⟩ = some (.slice A1_4 l1_4.length c1_4) := (blk_cell BK226.out 4).trans rfl; have hcz19_5 : w16.cell? ⟨gb226, 5, none⟩ = some (.bool a1_5) := (blk_cell BK226.out 5).trans rfl; have hfz19_0 := blk_frozen BK226.out 0; have hfz19_1 := blk_frozen BK226.out 1; have hfz19_2 := blk_frozen BK226.out 2; have hfz19_3 := blk_frozen BK226.out 3; have hfz19_4 := blk_frozen BK226.out 4; have hfz19_5 := blk_frozen BK226.out 5) | (go_at_call 26; (with_reducible refine (chamberlainref01_Same.calls k _ _ l0_3 _ _ l1_3 false _ ?side1 ?side2 ?side3 ?side4 A7.out).mono ?_); (case side1 => repeat (first | exact (Kd.C_below HR0_3.out HB.out) | (with_reducible refine Kd.C_alloc ?_ _) | (with_reducible refine Kd.C_drewN ?_ _) | (with_reducible refine Kd.C_drew ?_))); (case side2 => exact HC0_3.out); (case side3 => repeat (first | exact (Kd.C_below HR1_3.out HB.out) | (with_reducible refine Kd.C_alloc ?_ _) | (with_reducible refine Kd.C_drewN ?_ _) | (with_reducible refine Kd.C_drew ?_))); (case side4 => exact HC1_3.out); rintro e w' ⟨rfl, ⟨nd, rfl⟩⟩))
            go_ret
            exact ⟨by first | rfl | (simp [errW_none, errW_some] <;> rfl) | (simp [*, errW_none, errW_some] <;> rfl), by repeat (first | (with_reducible first | exact HB.out | apply below_alloc | apply pw_below_drewN | apply below_drew1 | refine below_set ?_ GE225.out | refine below_set ?_ GE226.out) | exact HB.out)⟩
        · rw [if_neg c6] at H
          have c6b0 : (a0_5 == a1_5) = false := by simpa using c6
          (try (have c6b1 : decide (a0_5 = a1_5) = false := by simpa using c6))
          (try (have c6b2 : (a0_5 == a1_5) = false := by simpa using c6))
          (try (have c6b3 : ¬ (a0_5 = a1_5) := by simpa using c6))
          clear c6
          obtain rfl := Option.some.inj H
          go_enter Try.func20, Try.ntmps20
          go_wp2_with (first | ((with_reducible refine gate_dst (N := 2) rfl ?_); refine box_event ?hg (N := 2) ?hd (cs := #[.int .u32 a0_0, .int .u32 a0_1, .int .u32 a0_2, .slice A0_3 l0_3.length c0_3, .slice A0_4 l0_4.length c0_4, .bool a0_5]) (t := 39) ?hr ?_; (case hd => rfl); (case hg => rfl); (case hr => first | (go_simp; done) | (go_simp; rfl)); intro gb225 hg w20 hbox hb; have n0_ := Aside0.mk (below_step (by repeat (first | (with_reducible first | exact HB.out | apply below_alloc | apply pw_below_drewN | apply below_drew1) | exact HB.out)) hb); have n1_ := Aside0.mk (hbox); have n2_ := Aside0.mk ((by rw [hg]; exact (below_size (by repeat (first | (with_reducible first | exact HB.out | apply below_alloc | apply pw_below_drewN | apply below_drew1) | exact HB.out))) : w.heap.size ≤ gb225)); have n3_ := Aside0.mk ((by rw [hg]; exact (below_size (by repeat (first | (with_reducible first | exact HB.out | apply below_alloc | apply pw_below_drewN | apply below_drew1) | exact HB.out))) : w.heap.size ≤ gb225)); clear HB; have HB := n0_; have BK225 := n1_; have GW225 := n2_; have GE225 := n3_; clear n0_ n1_ n2_ n3_; clear hb hbox hg) | ((with_reducible refine gate_dst (N := 3) rfl ?_); refine box_event ?hg (N := 3) ?hd (cs := #[.int .u32 a1_0, .int .u32 a1_1, .int .u32 a1_2, .slice A1_3 l1_3.length c1_3, .slice A1_4 l1_4.length c1_4, .bool a1_5]) (t := 39) ?hr ?_; (case hd => rfl); (case hg => rfl); (case hr => first | (go_simp; done) | (go_simp; rfl)); intro gb226 hg w21 hbox hb; have n0_ := Aside0.mk (blk_below (g := gb225) (o := .cells #[.int .u32 a0_0, .int .u32 a0_1, .int .u32 a0_2, .slice A0_3 l0_3.length c0_3, .slice A0_4 l0_4.length c0_4, .bool a0_5] 39 (0, 0)) (by (with_reducible repeat (first | refine blk_drewN ?_ _ | refine blk_drew ?_ | refine blk_alloc ?_ _)); exact BK225.out) hb); have n1_ := Aside0.mk (below_step (by repeat (first | (with_reducible first | exact HB.out | apply below_alloc | apply pw_below_drewN | apply below_drew1 | refine below_set ?_ GE225.out) | exact HB.out)) hb); have n2_ := Aside0.mk (hbox); have n3_ := Aside0.mk ((by rw [hg]; exact (below_size (by repeat (first | (with_reducible first | exact HB.out | apply below_alloc | apply pw_below_drewN | apply below_drew1 | refine below_set ?_ GE225.out) | exact HB.out))) : w.heap.size ≤ gb226)); have n4_ := Aside0.mk ((by rw [hg]; exact (below_size (by repeat (first | (with_reducible first | exact HB.out | apply below_alloc | apply pw_below_drewN | apply below_drew1 | refine below_set ?_ GE225.out) | exact HB.out))) : w.heap.size ≤ gb226)); have n5_ := Aside0.mk ((by rw [hg]; exact Nat.ne_of_lt (blk_lt (g := gb225) (o := .cells #[.int .u32 a0_0, .int .u32 a0_1, .int .u32 a0_2, .slice A0_3 l0_3.length c0_3, .slice A0_4 l0_4.length c0_4, .bool a0_5] 39 (0, 0)) (by (with_reducible repeat (first | refine blk_drewN ?_ _ | refine blk_drew ?_ | refine blk_alloc ?_ _)); exact BK225.out)) : gb225 ≠ gb226)); have n6_ := Aside0.mk ((by rw [hg]; exact Nat.ne_of_gt (blk_lt (g := gb225) (o := .cells #[.int .u32 a0_0, .int .u32 a0_1, .int .u32 a0_2, .slice A0_3 l0_3.length c0_3, .slice A0_4 l0_4.length c0_4, .bool a0_5] 39 (0, 0)) (by (with_reducible repeat (first | refine blk_drewN ?_ _ | refine blk_drew ?_ | refine blk_alloc ?_ _)); exact BK225.out)) : gb226 ≠ gb225)); clear BK225; clear HB; have BK225 := n0_; have HB := n1_; have BK226 := n2_; have GW226 := n3_; have GE226 := n4_; have NB225_226 := n5_; have NB226_225 := n6_; clear n0_ n1_ n2_ n3_ n4_ n5_ n6_; clear hb hbox hg; have hnb22 := NB225_226.out; have hnc22 := NB226_225.out; have hcz23_0 : w21.cell? ⟨gb225, 0, none⟩ = some (.int .u32 a0_0) := (blk_cell BK225.out 0).trans rfl; have hcz23_1 : w21.cell? ⟨gb225, 1, none⟩ = some (.int .u32 a0_1) := (blk_cell BK225.out 1).trans rfl; have hcz23_2 : w21.cell? ⟨gb225, 2, none⟩ = some (.int .u32 a0_2) := (blk_cell BK225.out 2).trans rfl; have hcz23_3 : w21.cell? ⟨gb225, 3, none⟩ = some (.slice A0_3 l0_3.length c0_3) := (blk_cell BK225.out 3).trans rfl; have hcz23_4 : w21.cell? ⟨gb225, 4, none⟩ = some (.slice A0_4 l0_4.length c0_4) := (blk_cell BK225.out 4).trans rfl; have hcz23_5 : w21.cell? ⟨gb225, 5, none⟩ = some (.bool a0_5) := (blk_cell BK225.out 5).trans rfl; have hfz23_0 := blk_frozen BK225.out 0; have hfz23_1 := blk_frozen BK225.out 1; have hfz23_2 := blk_frozen BK225.out 2; have hfz23_3 := blk_frozen BK225.out 3; have hfz23_4 := blk_frozen BK225.out 4; have hfz23_5 := blk_frozen BK225.out 5; have hcz24_0 : w21.cell? ⟨gb226, 0, none⟩ = some (.int .u32 a1_0) := (blk_cell BK226.out 0).trans rfl; have hcz24_1 : w21.cell? ⟨gb226, 1, none⟩ = some (.int .u32 a1_1) := (blk_cell BK226.out 1).trans rfl; have hcz24_2 : w21.cell? ⟨gb226, 2, none⟩ = some (.int .u32 a1_2) := (blk_cell BK226.out 2).trans rfl; have hcz24_3 : w21.cell? ⟨gb226, 3, none⟩ = some (.slice A1_3 l1_3.length c1_3) := (blk_cell BK226.out 3).trans rfl; have hcz24_4 : w21.cell? ⟨gb226, 4, none⟩ = some (.slice A1_4 l1_4.length c1_4) := (blk_cell BK226.out 4).trans rfl; have hcz24_5 : w21.cell? ⟨gb226, 5, none⟩ = some (.bool a1_5) := (blk_cell BK226.out 5).trans rfl; have hfz24_0 := blk_frozen BK226.out 0; have hfz24_1 := blk_frozen BK226.out 1; have hfz24_2 := blk_frozen BK226.out 2; have hfz24_3 := blk_frozen BK226.out 3; have hfz24_4 := blk_frozen BK226.out 4; have hfz24_5 := blk_frozen BK226.out 5))
          go_ret
          exact ⟨by first | rfl | (simp [errW_none, errW_some] <;> rfl) | (simp [*, errW_none, errW_some] <;> rfl), by repeat (first | (with_reducible first | exact HB.out | apply below_alloc | apply pw_below_drewN | apply below_drew1 | refine below_set ?_ GE225.out | refine below_set ?_ GE226.out) | exact HB.out)⟩
      · rw [if_neg c5] at H
        have c5b0 : (a0_2 == a1_2) = false := beq_eq_false_iff_ne.mpr c5
        have c5b1 : (a0_2 != a1_2) = true := bne_iff_ne.mpr c5
        obtain rfl := Option.some.inj H
        go_enter Try.func20, Try.ntmps20
        go_wp2_with (first | ((with_reducible refine gate_dst (N := 2) rfl ?_); refine box_event ?hg (N := 2) ?hd (cs := #[.int .u32 a0_0, .int .u32 a0_1, .int .u32 a0_2, .slice A0_3 l0_3.length c0_3, .slice A0_4 l0_4.length c0_4, .bool a0_5]) (t := 39) ?hr ?_; (case hd => rfl); (case hg => rfl); (case hr => first | (go_simp; done) | (go_simp; rfl)); intro gb225 hg w25 hbox hb; have n0_ := Aside0.mk (below_step (by repeat (first | (with_reducible first | exact HB.out | apply below_alloc | apply pw_below_drewN | apply below_drew1) | exact HB.out)) hb); have n1_ := Aside0.mk (hbox); have n2_ := Aside0.mk ((by rw [hg]; exact (below_size (by repeat (first | (with_reducible first | exact HB.out | apply below_alloc | apply pw_below_drewN | apply below_drew1) | exact HB.out))) : w.heap.size ≤ gb225)); have n3_ := Aside0.mk ((by rw [hg]; exact (below_size (by repeat (first | (with_reducible first | exact HB.out | apply below_alloc | apply pw_below_drewN | apply below_drew1) | exact HB.out))) : w.heap.size ≤ gb225)); clear HB; have HB := n0_; have BK225 := n1_; have GW225 := n2_; have GE225 := n3_; clear n0_ n1_ n2_ n3_; clear hb hbox hg) | ((with_reducible refine gate_dst (N := 3) rfl ?_); refine box_event ?hg (N := 3) ?hd (cs := #[.int .u32 a1_0, .int .u32 a1_1, .int .u32 a1_2, .slice A1_3 l1_3.length c1_3, .slice A1_4 l1_4.length c1_4, .bool a1_5]) (t := 39) ?hr ?_; (case hd => rfl); (case hg => rfl); (case hr => first | (go_simp; done) | (go_simp; rfl)); intro gb226 hg w26 hbox hb; have n0_ := Aside0.mk (blk_below (g := gb225) (o := .cells #[.int .u32 a0_0, .int .u32 a0_1, .int .u32 a0_2, .slice A0_3 l0_3.length c0_3, .slice A0_4 l0_4.length c0_4, .bool a0_5] 39 (0, 0)) (by (with_reducible repeat (first | refine blk_drewN ?_ _ | refine blk_drew ?_ | refine blk_alloc ?_ _)); exact BK225.out) hb); have n1_ := Aside0.mk (below_step (by repeat (first | (with_reducible first | exact HB.out | apply below_alloc | apply pw_below_drewN | apply below_drew1 | refine below_set ?_ GE225.out) | exact HB.out)) hb); have n2_ := Aside0.mk (hbox); have n3_ := Aside0.mk ((by rw [hg]; exact (below_size (by repeat (first | (with_reducible first | exact HB.out | apply below_alloc | apply pw_below_drewN | apply below_drew1 | refine below_set ?_ GE225.out) | exact HB.out))) : w.heap.size ≤ gb226)); have n4_ := Aside0.mk ((by rw [hg]; exact (below_size (by repeat (first | (with_reducible first | exact HB.out | apply below_alloc | apply pw_below_drewN | apply below_drew1 | refine below_set ?_ GE225.out) | exact HB.out))) : w.heap.size ≤ gb226)); have n5_ := Aside0.mk ((by rw [hg]; exact Nat.ne_of_lt (blk_lt (g := gb225) (o := .cells #[.int .u32 a0_0, .int .u32 a0_1, .int .u32 a0_2, .slice A0_3 l0_3.length c0_3, .slice A0_4 l0_4.length c0_4, .bool a0_5] 39 (0, 0)) (by (with_reducible repeat (first | refine blk_drewN ?_ _ | refine blk_drew ?_ | refine blk_alloc ?_ _)); exact BK225.out)) : gb225 ≠ gb226)); have n6_ := Aside0.mk ((by rw [hg]; exact Nat.ne_of_gt (blk_lt (g := gb225) (o := .cells #[.int .u32 a0_0, .int .u32 a0_1, .int .u32 a0_2, .slice A0_3 l0_3.length c0_3, .slice A0_4 l0_4.length c0_4, .bool a0_5] 39 (0, 0)) (by (with_reducible repeat (first | refine blk_drewN ?_ _ | refine blk_drew ?_ | refine blk_alloc ?_ _)); exact BK225.out)) : gb226 ≠ gb225)); clear BK225; clear HB; have BK225 := n0_; have HB := n1_; have BK226 := n2_; have GW226 := n3_; have GE226 := n4_; have NB225_226 := n5_; have NB226_225 := n6_; clear n0_ n1_ n2_ n3_ n4_ n5_ n6_; clear hb hbox hg; have hnb27 := NB225_226.out; have hnc27 := NB226_225.out; have hcz28_0 : w26.cell? ⟨gb225, 0, none⟩ = some (.int .u32 a0_0) := (blk_cell BK225.out 0).trans rfl; have hcz28_1 : w26.cell? ⟨gb225, 1, none⟩ = some (.int .u32 a0_1) := (blk_cell BK225.out 1).trans rfl; have hcz28_2 : w26.cell? ⟨gb225, 2, none⟩ = some (.int .u32 a0_2) := (blk_cell BK225.out 2).trans rfl; have hcz28_3 : w26.cell? ⟨gb225, 3, none⟩ = some (.slice A0_3 l0_3.length c0_3) := (blk_cell BK225.out 3).trans rfl; have hcz28_4 : w26.cell? ⟨gb225, 4, none⟩ = some (.slice A0_4 l0_4.length c0_4) := (blk_cell BK225.out 4).trans rfl; have hcz28_5 : w26.cell? ⟨gb225, 5, none⟩ = some (.bool a0_5) := (blk_cell BK225.out 5).trans rfl; have hfz28_0 := blk_frozen BK225.out 0; have hfz28_1 := blk_frozen BK225.out 1; have hfz28_2 := blk_frozen BK225.out 2; have hfz28_3 := blk_frozen BK225.out 3; have hfz28_4 := blk_frozen BK225.out 4; have hfz28_5 := blk_frozen BK225.out 5; have hcz29_0 : w26.cell? ⟨gb226, 0, none⟩ = some (.int .u32 a1_0) := (blk_cell BK226.out 0).trans rfl; have hcz29_1 : w26.cell? ⟨gb226, 1, none⟩ = some (.int .u32 a1_1) := (blk_cell BK226.out 1).trans rfl; have hcz29_2 : w26.cell? ⟨gb226, 2, none⟩ = some (.int .u32 a1_2) := (blk_cell BK226.out 2).trans rfl; have hcz29_3 : w26.cell? ⟨gb226, 3, none⟩ = some (.slice A1_3 l1_3.length c1_3) := (blk_cell BK226.out 3).trans rfl; have hcz29_4 : w26.cell? ⟨gb226, 4, none⟩ = some (.slice A1_4 l1_4.length c1_4) := (blk_cell BK226.out 4).trans rfl; have hcz29_5 : w26.cell? ⟨gb226, 5, none⟩ = some (.bool a1_5) := (blk_cell BK226.out 5).trans rfl; have hfz29_0 := blk_frozen BK226.out 0; have hfz29_1 := blk_frozen BK226.out 1; have hfz29_2 := blk_frozen BK226.out 2; have hfz29_3 := blk_frozen BK226.out 3; have hfz29_4 := blk_frozen BK226.out 4; have hfz29_5 := blk_frozen BK226.out 5))
        go_ret
        exact ⟨by first | rfl | (simp [errW_none, errW_some] <;> rfl) | (simp [*, errW_none, errW_some] <;> rfl), by repeat (first | (with_reducible first | exact HB.out | apply below_alloc | apply pw_below_drewN | apply below_drew1 | refine below_set ?_ GE225.out | refine below_set ?_ GE226.out) | exact HB.out)⟩
    · rw [if_neg c4] at H
      have c4b0 : (a0_1 == a1_1) = false := beq_eq_false_iff_ne.mpr c4
      have c4b1 : (a0_1 != a1_1) = true := bne_iff_ne.mpr c4
      obtain rfl := Option.some.inj H
      go_enter Try.func20, Try.ntmps20
      go_wp2_with (first | ((with_reducible refine gate_dst (N := 2) rfl ?_); refine box_event ?hg (N := 2) ?hd (cs := #[.int .u32 a0_0, .int .u32 a0_1, .int .u32 a0_2, .slice A0_3 l0_3.length c0_3, .slice A0_4 l0_4.length c0_4, .bool a0_5]) (t := 39) ?hr ?_; (case hd => rfl); (case hg => rfl); (case hr => first | (go_simp; done) | (go_simp; rfl)); intro gb225 hg w30 hbox hb; have n0_ := Aside0.mk (below_step (by repeat (first | (with_reducible first | exact HB.out | apply below_alloc | apply pw_below_drewN | apply below_drew1) | exact HB.out)) hb); have n1_ := Aside0.mk (hbox); have n2_ := Aside0.mk ((by rw [hg]; exact (below_size (by repeat (first | (with_reducible first | exact HB.out | apply below_alloc | apply pw_below_drewN | apply below_drew1) | exact HB.out))) : w.heap.size ≤ gb225)); have n3_ := Aside0.mk ((by rw [hg]; exact (below_size (by repeat (first | (with_reducible first | exact HB.out | apply below_alloc | apply pw_below_drewN | apply below_drew1) | exact HB.out))) : w.heap.size ≤ gb225)); clear HB; have HB := n0_; have BK225 := n1_; have GW225 := n2_; have GE225 := n3_; clear n0_ n1_ n2_ n3_; clear hb hbox hg) | ((with_reducible refine gate_dst (N := 3) rfl ?_); refine box_event ?hg (N := 3) ?hd (cs := #[.int .u32 a1_0, .int .u32 a1_1, .int .u32 a1_2, .slice A1_3 l1_3.length c1_3, .slice A1_4 l1_4.length c1_4, .bool a1_5]) (t := 39) ?hr ?_; (case hd => rfl); (case hg => rfl); (case hr => first | (go_simp; done) | (go_simp; rfl)); intro gb226 hg w31 hbox hb; have n0_ := Aside0.mk (blk_below (g := gb225) (o := .cells #[.int .u32 a0_0, .int .u32 a0_1, .int .u32 a0_2, .slice A0_3 l0_3.length c0_3, .slice A0_4 l0_4.length c0_4, .bool a0_5] 39 (0, 0)) (by (with_reducible repeat (first | refine blk_drewN ?_ _ | refine blk_drew ?_ | refine blk_alloc ?_ _)); exact BK225.out) hb); have n1_ := Aside0.mk (below_step (by repeat (first | (with_reducible first | exact HB.out | apply below_alloc | apply pw_below_drewN | apply below_drew1 | refine below_set ?_ GE225.out) | exact HB.out)) hb); have n2_ := Aside0.mk (hbox); have n3_ := Aside0.mk ((by rw [hg]; exact (below_size (by repeat (first | (with_reducible first | exact HB.out | apply below_alloc | apply pw_below_drewN | apply below_drew1 | refine below_set ?_ GE225.out) | exact HB.out))) : w.heap.size ≤ gb226)); have n4_ := Aside0.mk ((by rw [hg]; exact (below_size (by repeat (first | (with_reducible first | exact HB.out | apply below_alloc | apply pw_below_drewN | apply below_drew1 | refine below_set ?_ GE225.out) | exact HB.out))) : w.heap.size ≤ gb226)); have n5_ := Aside0.mk ((by rw [hg]; exact Nat.ne_of_lt (blk_lt (g := gb225) (o := .cells #[.int .u32 a0_0, .int .u32 a0_1, .int .u32 a0_2, .slice A0_3 l0_3.length c0_3, .slice A0_4 l0_4.length c0_4, .bool a0_5] 39 (0, 0)) (by (with_reducible repeat (first | refine blk_drewN ?_ _ | refine blk_drew ?_ | refine blk_alloc ?_ _)); exact BK225.out)) : gb225 ≠ gb226)); have n6_ := Aside0.mk ((by rw [hg]; exact Nat.ne_of_gt (blk_lt (g := gb225) (o := .cells #[.int .u32 a0_0, .int .u32 a0_1, .int .u32 a0_2, .slice A0_3 l0_3.length c0_3, .slice A0_4 l0_4.length c0_4, .bool a0_5] 39 (0, 0)) (by (with_reducible repeat (first | refine blk_drewN ?_ _ | refine blk_drew ?_ | refine blk_alloc ?_ _)); exact BK225.out)) : gb226 ≠ gb225)); clear BK225; clear HB; have BK225 := n0_; have HB := n1_; have BK226 := n2_; have GW226 := n3_; have GE226 := n4_; have NB225_226 := n5_; have NB226_225 := n6_; clear n0_ n1_ n2_ n3_ n4_ n5_ n6_; clear hb hbox hg; have hnb32 := NB225_226.out; have hnc32 := NB226_225.out; have hcz33_0 : w31.cell? ⟨gb225, 0, none⟩ = some (.int .u32 a0_0) := (blk_cell BK225.out 0).trans rfl; have hcz33_1 : w31.cell? ⟨gb225, 1, none⟩ = some (.int .u32 a0_1) := (blk_cell BK225.out 1).trans rfl; have hcz33_2 : w31.cell? ⟨gb225, 2, none⟩ = some (.int .u32 a0_2) := (blk_cell BK225.out 2).trans rfl; have hcz33_3 : w31.cell? ⟨gb225, 3, none⟩ = some (.slice A0_3 l0_3.length c0_3) := (blk_cell BK225.out 3).trans rfl; have hcz33_4 : w31.cell? ⟨gb225, 4, none⟩ = some (.slice A0_4 l0_4.length c0_4) := (blk_cell BK225.out 4).trans rfl; have hcz33_5 : w31.cell? ⟨gb225, 5, none⟩ = some (.bool a0_5) := (blk_cell BK225.out 5).trans rfl; have hfz33_0 := blk_frozen BK225.out 0; have hfz33_1 := blk_frozen BK225.out 1; have hfz33_2 := blk_frozen BK225.out 2; have hfz33_3 := blk_frozen BK225.out 3; have hfz33_4 := blk_frozen BK225.out 4; have hfz33_5 := blk_frozen BK225.out 5; have hcz34_0 : w31.cell? ⟨gb226, 0, none⟩ = some (.int .u32 a1_0) := (blk_cell BK226.out 0).trans rfl; have hcz34_1 : w31.cell? ⟨gb226, 1, none⟩ = some (.int .u32 a1_1) := (blk_cell BK226.out 1).trans rfl; have hcz34_2 : w31.cell? ⟨gb226, 2, none⟩ = some (.int .u32 a1_2) := (blk_cell BK226.out 2).trans rfl; have hcz34_3 : w31.cell? ⟨gb226, 3, none⟩ = some (.slice A1_3 l1_3.length c1_3) := (blk_cell BK226.out 3).trans rfl; have hcz34_4 : w31.cell? ⟨gb226, 4, none⟩ = some (.slice A1_4 l1_4.length c1_4) := (blk_cell BK226.out 4).trans rfl; have hcz34_5 : w31.cell? ⟨gb226, 5, none⟩ = some (.bool a1_5) := (blk_cell BK226.out 5).trans rfl; have hfz34_0 := blk_frozen BK226.out 0; have hfz34_1 := blk_frozen BK226.out 1; have hfz34_2 := blk_frozen BK226.out 2; have hfz34_3 := blk_frozen BK226.out 3; have hfz34_4 := blk_frozen BK226.out 4; have hfz34_5 := blk_frozen BK226.out 5))
      go_ret
      exact ⟨by first | rfl | (simp [errW_none, errW_some] <;> rfl) | (simp [*, errW_none, errW_some] <;> rfl), by repeat (first | (with_reducible first | exact HB.out | apply below_alloc | apply pw_below_drewN | apply below_drew1 | refine below_set ?_ GE225.out | refine below_set ?_ GE226.out) | exact HB.out)⟩
  · rw [if_neg c3] at H
    have c3b0 : (a0_0 == a1_0) = false := beq_eq_false_iff_ne.mpr c3
    have c3b1 : (a0_0 != a1_0) = true := bne_iff_ne.mpr c3
    obtain rfl := Option.some.inj H
    go_enter Try.func20, Try.ntmps20
    go_wp2_with (first | ((with_reducible refine gate_dst (N := 2) rfl ?_); refine box_event ?hg (N := 2) ?hd (cs := #[.int .u32 a0_0, .int .u32 a0_1, .int .u32 a0_2, .slice A0_3 l0_3.length c0_3, .slice A0_4 l0_4.length c0_4, .bool a0_5]) (t := 39) ?hr ?_; (case hd => rfl); (case hg => rfl); (case hr => first | (go_simp; done) | (go_simp; rfl)); intro gb225 hg w35 hbox hb; have n0_ := Aside0.mk (below_step (by repeat (first | (with_reducible first | exact HB.out | apply below_alloc | apply pw_below_drewN | apply below_drew1) | exact HB.out)) hb); have n1_ := Aside0.mk (hbox); have n2_ := Aside0.mk ((by rw [hg]; exact (below_size (by repeat (first | (with_reducible first | exact HB.out | apply below_alloc | apply pw_below_drewN | apply below_drew1) | exact HB.out))) : w.heap.size ≤ gb225)); have n3_ := Aside0.mk ((by rw [hg]; exact (below_size (by repeat (first | (with_reducible first | exact HB.out | apply below_alloc | apply pw_below_drewN | apply below_drew1) | exact HB.out))) : w.heap.size ≤ gb225)); clear HB; have HB := n0_; have BK225 := n1_; have GW225 := n2_; have GE225 := n3_; clear n0_ n1_ n2_ n3_; clear hb hbox hg) | ((with_reducible refine gate_dst (N := 3) rfl ?_); refine box_event ?hg (N := 3) ?hd (cs := #[.int .u32 a1_0, .int .u32 a1_1, .int .u32 a1_2, .slice A1_3 l1_3.length c1_3, .slice A1_4 l1_4.length c1_4, .bool a1_5]) (t := 39) ?hr ?_; (case hd => rfl); (case hg => rfl); (case hr => first | (go_simp; done) | (go_simp; rfl)); intro gb226 hg w36 hbox hb; have n0_ := Aside0.mk (blk_below (g := gb225) (o := .cells #[.int .u32 a0_0, .int .u32 a0_1, .int .u32 a0_2, .slice A0_3 l0_3.length c0_3, .slice A0_4 l0_4.length c0_4, .bool a0_5] 39 (0, 0)) (by (with_reducible repeat (first | refine blk_drewN ?_ _ | refine blk_drew ?_ | refine blk_alloc ?_ _)); exact BK225.out) hb); have n1_ := Aside0.mk (below_step (by repeat (first | (with_reducible first | exact HB.out | apply below_alloc | apply pw_below_drewN | apply below_drew1 | refine below_set ?_ GE225.out) | exact HB.out)) hb); have n2_ := Aside0.mk (hbox); have n3_ := Aside0.mk ((by rw [hg]; exact (below_size (by repeat (first | (with_reducible first | exact HB.out | apply below_alloc | apply pw_below_drewN | apply below_drew1 | refine below_set ?_ GE225.out) | exact HB.out))) : w.heap.size ≤ gb226)); have n4_ := Aside0.mk ((by rw [hg]; exact (below_size (by repeat (first | (with_reducible first | exact HB.out | apply below_alloc | apply pw_below_drewN | apply below_drew1 | refine below_set ?_ GE225.out) | exact HB.out))) : w.heap.size ≤ gb226)); have n5_ := Aside0.mk ((by rw [hg]; exact Nat.ne_of_lt (blk_lt (g := gb225) (o := .cells #[.int .u32 a0_0, .int .u32 a0_1, .int .u32 a0_2, .slice A0_3 l0_3.length c0_3, .slice A0_4 l0_4.length c0_4, .bool a0_5] 39 (0, 0)) (by (with_reducible repeat (first | refine blk_drewN ?_ _ | refine blk_drew ?_ | refine blk_alloc ?_ _)); exact BK225.out)) : gb225 ≠ gb226)); have n6_ := Aside0.mk ((by rw [hg]; exact Nat.ne_of_gt (blk_lt (g := gb225) (o := .cells #[.int .u32 a0_0, .int .u32 a0_1, .int .u32 a0_2, .slice A0_3 l0_3.length c0_3, .slice A0_4 l0_4.length c0_4, .bool a0_5] 39 (0, 0)) (by (with_reducible repeat (first | refine blk_drewN ?_ _ | refine blk_drew ?_ | refine blk_alloc ?_ _)); exact BK225.out)) : gb226 ≠ gb225)); clear BK225; clear HB; have BK225 := n0_; have HB := n1_; have BK226 := n2_; have GW226 := n3_; have GE226 := n4_; have NB225_226 := n5_; have NB226_225 := n6_; clear n0_ n1_ n2_ n3_ n4_ n5_ n6_; clear hb hbox hg; have hnb37 := NB225_226.out; have hnc37 := NB226_225.out; have hcz38_0 : w36.cell? ⟨gb225, 0, none⟩ = some (.int .u32 a0_0) := (blk_cell BK225.out 0).trans rfl; have hcz38_1 : w36.cell? ⟨gb225, 1, none⟩ = some (.int .u32 a0_1) := (blk_cell BK225.out 1).trans rfl; have hcz38_2 : w36.cell? ⟨gb225, 2, none⟩ = some (.int .u32 a0_2) := (blk_cell BK225.out 2).trans rfl; have hcz38_3 : w36.cell? ⟨gb225, 3, none⟩ = some (.slice A0_3 l0_3.length c0_3) := (blk_cell BK225.out 3).trans rfl; have hcz38_4 : w36.cell? ⟨gb225, 4, none⟩ = some (.slice A0_4 l0_4.length c0_4) := (blk_cell BK225.out 4).trans rfl; have hcz38_5 : w36.cell? ⟨gb225, 5, none⟩ = some (.bool a0_5) := (blk_cell BK225.out 5).trans rfl; have hfz38_0 := blk_frozen BK225.out 0; have hfz38_1 := blk_frozen BK225.out 1; have hfz38_2 := blk_frozen BK225.out 2; have hfz38_3 := blk_frozen BK225.out 3; have hfz38_4 := blk_frozen BK225.out 4; have hfz38_5 := blk_frozen BK225.out 5; have hcz39_0 : w36.cell? ⟨gb226, 0, none⟩ = some (.int .u32 a1_0) := (blk_cell BK226.out 0).trans rfl; have hcz39_1 : w36.cell? ⟨gb226, 1, none⟩ = some (.int .u32 a1_1) := (blk_cell BK226.out 1).trans rfl; have hcz39_2 : w36.cell? ⟨gb226, 2, none⟩ = some (.int .u32 a1_2) := (blk_cell BK226.out 2).trans rfl; have hcz39_3 : w36.cell? ⟨gb226, 3, none⟩ = some (.slice A1_3 l1_3.length c1_3) := (blk_cell BK226.out 3).trans rfl; have hcz39_4 : w36.cell? ⟨gb226, 4, none⟩ = some (.slice A1_4 l1_4.length c1_4) := (blk_cell BK226.out 4).trans rfl; have hcz39_5 : w36.cell? ⟨gb226, 5, none⟩ = some (.bool a1_5) := (blk_cell BK226.out 5).trans rfl; have hfz39_0 := blk_frozen BK226.out 0; have hfz39_1 := blk_frozen BK226.out 1; have hfz39_2 := blk_frozen BK226.out 2; have hfz39_3 := blk_frozen BK226.out 3; have hfz39_4 := blk_frozen BK226.out 4; have hfz39_5 := blk_frozen BK226.out 5))
    go_ret
    exact ⟨by first | rfl | (simp [errW_none, errW_some] <;> rfl) | (simp [*, errW_none, errW_some] <;> rfl), by repeat (first | (with_reducible first | exact HB.out | apply below_alloc | apply pw_below_drewN | apply below_drew1 | refine below_set ?_ GE225.out | refine below_set ?_ GE226.out) | exact HB.out)⟩

/-! ### chamberlainref10_Same: function 15 -/
def chamberlainref10_Same.l0 : Nat → List (S39) → List (S39) → Int → Option (Bool)
  | 0, _, _, _ => none
  | k + 1, x0, x1, x5 => if x5 < (x0.length : Int) then (if 0 ≤ x5 then (if x5 < (x1.length : Int) then ((chamberlainref10_One.f k ((rd_T39 x0 x5).f0) ((rd_T39 x0 x5).f1) ((rd_T39 x0 x5).f2) ((rd_T39 x0 x5).f3) ((rd_T39 x0 x5).f4) ((rd_T39 x0 x5).f5) ((rd_T39 x1 x5).f0) ((rd_T39 x1 x5).f1) ((rd_T39 x1 x5).f2) ((rd_T39 x1 x5).f3) ((rd_T39 x1 x5).f4) ((rd_T39 x1 x5).f5)).bind fun t231 => (if t231 = true then (chamberlainref10_Same.l0 k x0 x1 (wrap64 (x5 + 1))) else (some false))) else (none)) else (none)) else (some true)
def chamberlainref10_Same.f (k : Nat) (l0 : List (S39)) (l1 : List (S39)) : Option (Bool) := if (l0.length : Int) = (l1.length : Int) then (chamberlainref10_Same.l0 k l0 l1 0) else (some false)
theorem chamberlainref10_Same.mono_l : ∀ k, (∀ y0 y1 y2, LeO (chamberlainref10_Same.l0 k y0 y1 y2) (chamberlainref10_Same.l0 (k + 1) y0 y1 y2))
  | 0 => fun _ _ _ r h => by simp [chamberlainref10_Same.l0] at h
  | k + 1 => by
    have ih0 := chamberlainref10_Same.mono_l k
    · intro y0 y1 y2
      unfold chamberlainref10_Same.l0
      repeat' first
      | (with_reducible exact ih0 _ _ _)
      | (with_reducible exact chamberlainref10_One.mono _ _ _ _ _ _ _ _ _ _ _ _ _)
      | (with_reducible exact LeO.refl _)
      | (with_reducible exact LeO.none _)
      | (with_reducible refine LeO.ite ?_ ?_)
      | (with_reducible refine LeO.bind ?_ (fun _ => ?_))
      | exact ih0 _ _ _
      | exact chamberlainref10_One.mono _ _ _ _ _ _ _ _ _ _ _ _ _
      | exact LeO.none _
      | refine LeO.ite ?_ ?_
      | refine LeO.bind ?_ (fun _ => ?_)
theorem chamberlainref10_Same.mono : ∀ a0 a1 k, LeO (chamberlainref10_Same.f k a0 a1) (chamberlainref10_Same.f (k + 1) a0 a1) := by
  intro a0 a1 k
  have ih0 := chamberlainref10_Same.mono_l k
  unfold chamberlainref10_Same.f
  repeat' first
      | (with_reducible exact ih0 _ _ _)
      | (with_reducible exact chamberlainref10_One.mono _ _ _ _ _ _ _ _ _ _ _ _ _)
      | (with_reducible exact LeO.refl _)
      | (with_reducible exact LeO.none _)
      | (with_reducible refine LeO.ite ?_ ?_)
      | (with_reducible refine LeO.bind ?_ (fun _ => ?_))
      | exact ih0 _ _ _
      | exact chamberlainref10_One.mono _ _ _ _ _ _ _ _ _ _ _ _ _
      | exact LeO.none _
      | refine LeO.ite ?_ ?_
      | refine LeO.bind ?_ (fun _ => ?_)
def chamberlainref10_Same.T6 : Bool × List (List Nat × List Nat) := (true, [([], []), ([], []), ([0, 1], [0, 1]), ([2], [2]), ([], []), ([], []), ([4, 5], [4, 5]), ([6], [6]), ([3, 7], [3, 7]), ([8], [8])])
def chamberlainref10_Same.B6 : List Nat := [0, 0, 3, 7, 0, 0, 48, 112, 255, 511]
theorem chamberlainref10_Same.tab6 : rtab .any (opsOf Try.f15 6) = chamberlainref10_Same.T6 := by kernel_rfl
theorem chamberlainref10_Same.bits6 : waitsOk chamberlainref10_Same.T6.2 chamberlainref10_Same.B6 = true := by kernel_rfl
set_option maxHeartbeats 8000000 in
set_option maxRecDepth 100000 in
theorem chamberlainref10_Same.calls (k : Nat) (A0 : Option Addr) (c0 : Nat) (l0 : List (S39)) (A1 : Option Addr) (c1 : Nat) (l1 : List (S39)) (r : Bool) (w : World) (hr0 : Kd.C k39 w A0 l0.length l0) (hc0 : l0.length ≤ c0) (hr1 : Kd.C k39 w A1 l1.length l1) (hc1 : l1.length ≤ c1) (h : chamberlainref10_Same.f k l0 l1 = some r) :
    Calls Try.prog 15 #[.slice A0 l0.length c0, .slice A1 l1.length c1] w fun e w' => e = .returned (.bool r) ∧ Below w.heap.size w w' := by
  have hu39 := Try.underlying39
  have HR0 := Aside0.mk hr0
  have HC0 := Aside0.mk hc0
  clear hr0 hc0
  have HR1 := Aside0.mk hr1
  have HC1 := Aside0.mk hc1
  clear hr1 hc1
  have HB := Aside0.mk (Below.refl w.heap.size w)
  have H : (if (l0.length : Int) = (l1.length : Int) then (chamberlainref10_Same.l0 k l0 l1 0) else (some false)) = some r := h
  clear h
  by_cases c3 : (l0.length : Int) = (l1.length : Int)
  · rw [if_pos c3] at H
    have c3b0 : ((l0.length : Int) == (l1.length : Int)) = true := beq_iff_eq.mpr c3
    have c3b1 : ((l0.length : Int) != (l1.length : Int)) = false := bne_eq_false_iff_eq.mpr c3
    have c3b2 : (l0.length == l1.length) = true := by first | simpa using c3 | (simp at c3 ⊢; omega)
    clear c3
    have H' := Aside0.mk H
    clear H
    go_enter Try.func15, Try.ntmps15
    go_wp2
    go_loopg [5] k (fun kq v5 w' => ∃ (x5_1 : Int), v5 = .int .i64 x5_1 ∧ Aside0 (chamberlainref10_Same.l0 kq l0 l1 x5_1 = some r) ∧ Aside0 (kq ≤ k) ∧ Aside0 (Below w.heap.size w w'))
    case atStart => exact ⟨(0), (by first | rfl | (simp; done) | (simp [*]; done)), H', ⟨Nat.le_refl _⟩, ⟨by repeat (first | (with_reducible first | exact HB.out | apply below_alloc | apply pw_below_drewN | apply below_drew1) | exact HB.out)⟩⟩
    case round =>
      clear H'
      try clear c1
      try clear p2
      try clear c3
      try clear c3b0
      try clear c3b1
      try clear c3b2
      obtain ⟨x5_1, rfl, HA, HK1, HB⟩ := hrel
      cases gk with
      | zero => exact absurd HA.out (by simp [chamberlainref10_Same.l0])
      | succ k1 =>
        have H := HA.out
        clear HA
        simp only [chamberlainref10_Same.l0] at H
        by_cases c4 : x5_1 < (l0.length : Int)
        · rw [if_pos c4] at H
          have c4b0 : decide (x5_1 < (l0.length : Int)) = true := decide_eq_true c4
          clear c4
          by_cases c5 : 0 ≤ x5_1
          · rw [if_pos c5] at H
            have c5b0 : decide (0 ≤ x5_1) = true := decide_eq_true c5
            clear c5
            by_cases c6 : x5_1 < (l1.length : Int)
            · rw [if_pos c6] at H
              have c6b0 : decide (x5_1 < (l1.length : Int)) = true := decide_eq_true c6
              clear c6
              replace H := Option.bind_eq_some_iff.mp H
              obtain ⟨t231, A70, H⟩ := H
              replace H : (if t231 = true then (chamberlainref10_Same.l0 k1 l0 l1 (wrap64 (x5_1 + 1))) else (some false)) = some r := H
              have A7 := Aside0.mk A70
              clear A70
              by_cases c8 : t231 = true
              · subst c8
                have H1 : (chamberlainref10_Same.l0 k1 l0 l1 (wrap64 (x5_1 + 1))) = some r := by rw [if_pos rfl] at H; exact H
                clear H
                have H := H1
                clear H1
                have H' := Aside0.mk H
                clear H
                try go_wp2
                have n0_ := Aside0.mk (below_drew1 HB.out)
                clear HB
                have HB := n0_
                clear n0_
                have p229 : 0 ≤ (x5_1 : Int) := of_decide_eq_true (by first | (with_reducible assumption) | assumption)
                have q229 : x5_1 < (l0.length : Int) := of_decide_eq_true (by first | (with_reducible assumption) | assumption)
                obtain ⟨ad229, A229_3, c229_3, A229_4, c229_4, e229, hx229_0, hx229_1, hx229_2, hx229_3, hx229_4, hx229_5, hl229_3, hi229_3, hl229_4, hi229_4⟩ := at_T39 HR0.out x5_1 p229 q229
                have hw229_5 := hx229_5
                have hw229_4 := hx229_4
                have hw229_3 := hx229_3
                have hw229_2 := hx229_2
                have hw229_1 := hx229_1
                have hw229_0 := hx229_0
                cases e229
                replace hx229_0 := (HB.out.cell (World.block_lt_of_cell? w _ hx229_0)).trans hx229_0
                replace hx229_1 := (HB.out.cell (World.block_lt_of_cell? w _ hx229_1)).trans hx229_1
                replace hx229_2 := (HB.out.cell (World.block_lt_of_cell? w _ hx229_2)).trans hx229_2
                replace hx229_3 := (HB.out.cell (World.block_lt_of_cell? w _ hx229_3)).trans hx229_3
                replace hx229_4 := (HB.out.cell (World.block_lt_of_cell? w _ hx229_4)).trans hx229_4
                replace hx229_5 := (HB.out.cell (World.block_lt_of_cell? w _ hx229_5)).trans hx229_5
                have HR229_3 := Aside0.mk hi229_3
                have HC229_3 := Aside0.mk hl229_3
                clear hi229_3 hl229_3
                have HR229_4 := Aside0.mk hi229_4
                have HC229_4 := Aside0.mk hl229_4
                clear hi229_4 hl229_4
                replace p229 := eq_true p229
                replace q229 := eq_true q229
                have p230 : 0 ≤ (x5_1 : Int) := of_decide_eq_true (by first | (with_reducible assumption) | assumption)
                have q230 : x5_1 < (l1.length : Int) := of_decide_eq_true (by first | (with_reducible assumption) | assumption)
                obtain ⟨ad230, A230_3, c230_3, A230_4, c230_4, e230, hx230_0, hx230_1, hx230_2, hx230_3, hx230_4, hx230_5, hl230_3, hi230_3, hl230_4, hi230_4⟩ := at_T39 HR1.out x5_1 p230 q230
                have hw230_5 := hx230_5
                have hw230_4 := hx230_4
                have hw230_3 := hx230_3
                have hw230_2 := hx230_2
                have hw230_1 := hx230_1
                have hw230_0 := hx230_0
                cases e230
                replace hx230_0 := (HB.out.cell (World.block_lt_of_cell? w _ hx230_0)).trans hx230_0
                replace hx230_1 := (HB.out.cell (World.block_lt_of_cell? w _ hx230_1)).trans hx230_1
                replace hx230_2 := (HB.out.cell (World.block_lt_of_cell? w _ hx230_2)).trans hx230_2
                replace hx230_3 := (HB.out.cell (World.block_lt_of_cell? w _ hx230_3)).trans hx230_3
                replace hx230_4 := (HB.out.cell (World.block_lt_of_cell? w _ hx230_4)).trans hx230_4
                replace hx230_5 := (HB.out.cell (World.block_lt_of_cell? w _ hx230_5)).trans hx230_5
                have HR230_3 := Aside0.mk hi230_3
                have HC230_3 := Aside0.mk hl230_3
                clear hi230_3 hl230_3
                have HR230_4 := Aside0.mk hi230_4
                have HC230_4 := Aside0.mk hl230_4
                clear hi230_4 hl230_4
                replace p230 := eq_true p230
                replace q230 := eq_true q230
                refine start_ (n := 10) (S := fun w' => w'.cell? (ad229.add ((x5_1).toNat * 6)) = some (.int .u32 ((rd_T39 l0 x5_1).f0)) ∧ w'.cell? ⟨(ad229.add ((x5_1).toNat * 6)).block, (ad229.add ((x5_1).toNat * 6)).off + 1, none⟩ = some (.int .u32 ((rd_T39 l0 x5_1).f1)) ∧ w'.cell? ⟨(ad229.add ((x5_1).toNat * 6)).block, (ad229.add ((x5_1).toNat * 6)).off + 2, none⟩ = some (.int .u32 ((rd_T39 l0 x5_1).f2)) ∧ w'.cell? ⟨(ad229.add ((x5_1).toNat * 6)).block, (ad229.add ((x5_1).toNat * 6)).off + 3, none⟩ = some (.slice A229_3 ((rd_T39 l0 x5_1).f3).length c229_3) ∧ w'.cell? ⟨(ad229.add ((x5_1).toNat * 6)).block, (ad229.add ((x5_1).toNat * 6)).off + 4, none⟩ = some (.slice A229_4 ((rd_T39 l0 x5_1).f4).length c229_4) ∧ w'.cell? ⟨(ad229.add ((x5_1).toNat * 6)).block, (ad229.add ((x5_1).toNat * 6)).off + 5, none⟩ = some (.bool ((rd_T39 l0 x5_1).f5)) ∧ w'.cell? (ad230.add ((x5_1).toNat * 6)) = some (.int .u32 ((rd_T39 l1 x5_1).f0)) ∧ w'.cell? ⟨(ad230.add ((x5_1).toNat * 6)).block, (ad230.add ((x5_1).toNat * 6)).off + 1, none⟩ = some (.int .u32 ((rd_T39 l1 x5_1).f1)) ∧ w'.cell? ⟨(ad230.add ((x5_1).toNat * 6)).block, (ad230.add ((x5_1).toNat * 6)).off + 2, none⟩ = some (.int .u32 ((rd_T39 l1 x5_1).f2)) ∧ w'.cell? ⟨(ad230.add ((x5_1).toNat * 6)).block, (ad230.add ((x5_1).toNat * 6)).off + 3, none⟩ = some (.slice A230_3 ((rd_T39 l1 x5_1).f3).length c230_3) ∧ w'.cell? ⟨(ad230.add ((x5_1).toNat * 6)).block, (ad230.add ((x5_1).toNat * 6)).off + 4, none⟩ = some (.slice A230_4 ((rd_T39 l1 x5_1).f4).length c230_4) ∧ w'.cell? ⟨(ad230.add ((x5_1).toNat * 6)).block, (ad230.add ((x5_1).toNat * 6)).off + 5, none⟩ = some (.bool ((rd_T39 l1 x5_1).f5))) (ds := []) #[false, false, false, false, false, false, false, false, false, false] (by kernel_rfl) rfl rfl ⟨((HB.out.cell (World.block_lt_of_cell? w _ hw229_0)).trans hw229_0), ((HB.out.cell (World.block_lt_of_cell? w _ hw229_1)).trans hw229_1), ((HB.out.cell (World.block_lt_of_cell? w _ hw229_2)).trans hw229_2), ((HB.out.cell (World.block_lt_of_cell? w _ hw229_3)).trans hw229_3), ((HB.out.cell (World.block_lt_of_cell? w _ hw229_4)).trans hw229_4), ((HB.out.cell (World.block_lt_of_cell? w _ hw229_5)).trans hw229_5), ((HB.out.cell (World.block_lt_of_cell? w _ hw230_0)).trans hw230_0), ((HB.out.cell (World.block_lt_of_cell? w _ hw230_1)).trans hw230_1), ((HB.out.cell (World.block_lt_of_cell? w _ hw230_2)).trans hw230_2), ((HB.out.cell (World.block_lt_of_cell? w _ hw230_3)).trans hw230_3), ((HB.out.cell (World.block_lt_of_cell? w _ hw230_4)).trans hw230_4), ((HB.out.cell (World.block_lt_of_cell? w _ hw230_5)).trans hw230_5)⟩ (fun hHeld => ?_); refine with_tabW chamberlainref10_Same.tab6 chamberlainref10_Same.bits6 (fun HT_ HW_ => ?_)
                generalize wr.drew = w9 at HB HR229_3 HR229_4 HR230_3 HR230_4 hx229_0 hx229_1 hx229_2 hx229_3 hx229_4 hx229_5 hx230_0 hx230_1 hx230_2 hx230_3 hx230_4 hx230_5 hHeld ⊢
                refine pure_ (i := 0) (N := some 17) (v := ?_) (a' := ?_) #[true, false, false, false, false, false, false, false, false, false] rfl rfl (any_of HT_.out (by kernel_rfl)) (fun _ _ _ h => h) (Or.inl ⟨by rfl, ?_⟩) ?_ ?_
                rotate_left
                · intro w'
                  go_simp
                  with_reducible rfl
                rotate_left
                · simp only [Act.put, List.setIfInBounds_toArray, List.set_cons_zero, List.set_cons_succ, i64_w, i32_w]
                  rfl
                refine pure_ (i := 1) (N := some 18) (v := ?_) (a' := ?_) #[true, true, false, false, false, false, false, false, false, false] rfl rfl (any_of HT_.out (by kernel_rfl)) (fun _ _ _ h => h) (Or.inl ⟨by rfl, ?_⟩) ?_ ?_
                rotate_left
                · intro w'
                  go_simp
                  with_reducible rfl
                rotate_left
                · simp only [Act.put, List.setIfInBounds_toArray, List.set_cons_zero, List.set_cons_succ, i64_w, i32_w]
                  rfl
                refine pure_ (i := 2) (N := some 19) (v := ?_) (a' := ?_) #[true, true, true, false, false, false, false, false, false, false] rfl rfl (any_of HT_.out (by kernel_rfl)) (fun _ _ _ h => h) (Or.inl ⟨by rfl, ?_⟩) ?_ ?_
                rotate_left
                · intro w'
                  go_simp
                  with_reducible rfl
                rotate_left
                · simp only [Act.put, List.setIfInBounds_toArray, List.set_cons_zero, List.set_cons_succ, i64_w, i32_w]
                  rfl
                refine pure_ (i := 4) (N := some 21) (v := ?_) (a' := ?_) #[true, true, true, false, true, false, false, false, false, false] rfl rfl (any_of HT_.out (by kernel_rfl)) (fun _ _ _ h => h) (Or.inl ⟨by rfl, ?_⟩) ?_ ?_
                rotate_left
                · intro w'
                  go_simp
                  with_reducible rfl
                rotate_left
                · simp only [Act.put, List.setIfInBounds_toArray, List.set_cons_zero, List.set_cons_succ, i64_w, i32_w]
                  rfl
                refine pure_ (i := 5) (N := some 22) (v := ?_) (a' := ?_) #[true, true, true, false, true, true, false, false, false, false] rfl rfl (any_of HT_.out (by kernel_rfl)) (fun _ _ _ h => h) (Or.inl ⟨by rfl, ?_⟩) ?_ ?_
                rotate_left
                · intro w'
                  go_simp
                  with_reducible rfl
                rotate_left
                · simp only [Act.put, List.setIfInBounds_toArray, List.set_cons_zero, List.set_cons_succ, i64_w, i32_w]
                  rfl
                refine pure_ (i := 6) (N := some 23) (v := ?_) (a' := ?_) #[true, true, true, false, true, true, true, false, false, false] rfl rfl (any_of HT_.out (by kernel_rfl)) (fun _ _ _ h => h) (Or.inl ⟨by rfl, ?_⟩) ?_ ?_
                rotate_left
                · intro w'
                  go_simp
                  with_reducible rfl
                rotate_left
                · simp only [Act.put, List.setIfInBounds_toArray, List.set_cons_zero, List.set_cons_succ, i64_w, i32_w]
                  rfl
                refine take_ (i := 3) (N := some 20) (v := ?_) (a' := ?_) #[true, true, true, true, true, true, true, false, false, false] rfl rfl (take_ofW HT_.out HW_.out (by kernel_rfl)) (fun _ _ _ h => h) (Or.inl ⟨by rfl, ?_⟩) hHeld ?_ ?_
                rotate_left
                · rintro w' ⟨s0, s1, s2, s3, s4, s5, s6, s7, s8, s9, s10, s11⟩
                  go_simp
                  with_reducible rfl
                rotate_left
                · simp only [Act.put, List.setIfInBounds_toArray, List.set_cons_zero, List.set_cons_succ, i64_w, i32_w]
                  rfl
                refine take_ (i := 7) (N := some 24) (v := ?_) (a' := ?_) #[true, true, true, true, true, true, true, true, false, false] rfl rfl (take_ofW HT_.out HW_.out (by kernel_rfl)) (fun _ _ _ h => h) (Or.inl ⟨by rfl, ?_⟩) hHeld ?_ ?_
                rotate_left
                · rintro w' ⟨s0, s1, s2, s3, s4, s5, s6, s7, s8, s9, s10, s11⟩
                  go_simp
                  with_reducible rfl
                rotate_left
                · simp only [Act.put, List.setIfInBounds_toArray, List.set_cons_zero, List.set_cons_succ, i64_w, i32_w]
                  rfl
                refine one_ (i := 8) (N := some 25) #[true, true, true, true, true, true, true, true, true, false] rfl rfl (one_of HT_.out (by kernel_rfl)) (by decide) (fun K hK => ?_)
                refine goes_ Try.func20 (by kernel_rfl) rfl #[.agg #[.int .u32 ((rd_T39 l0 x5_1).f0), .int .u32 ((rd_T39 l0 x5_1).f1), .int .u32 ((rd_T39 l0 x5_1).f2), .slice A229_3 ((rd_T39 l0 x5_1).f3).length c229_3, .slice A229_4 ((rd_T39 l0 x5_1).f4).length c229_4, .bool ((rd_T39 l0 x5_1).f5)], .agg #[.int .u32 ((rd_T39 l1 x5_1).f0), .int .u32 ((rd_T39 l1 x5_1).f1), .int .u32 ((rd_T39 l1 x5_1).f2), .slice A230_3 ((rd_T39 l1 x5_1).f3).length c230_3, .slice A230_4 ((rd_T39 l1 x5_1).f4).length c230_4, .bool ((rd_T39 l1 x5_1).f5)]] (by rfl) rfl rfl (by (try simp only [List.map_toArray, List.map_cons, List.map_nil]); first | done | rfl | (simp only [List.length_drop, List.length_take]; rfl)) ?_
                with_reducible refine (chamberlainref10_One.calls k1 ((rd_T39 l0 x5_1).f0) ((rd_T39 l0 x5_1).f1) ((rd_T39 l0 x5_1).f2) _ _ ((rd_T39 l0 x5_1).f3) _ _ ((rd_T39 l0 x5_1).f4) ((rd_T39 l0 x5_1).f5) ((rd_T39 l1 x5_1).f0) ((rd_T39 l1 x5_1).f1) ((rd_T39 l1 x5_1).f2) _ _ ((rd_T39 l1 x5_1).f3) _ _ ((rd_T39 l1 x5_1).f4) ((rd_T39 l1 x5_1).f5) true _ ?side1 ?side2 ?side3 ?side4 ?side5 ?side6 ?side7 ?side8 A7.out).mono ?_
                (case side1 => repeat (first | exact (Kd.C_below HR229_3.out HB.out) | (with_reducible refine Kd.C_alloc ?_ _) | (with_reducible refine Kd.C_drewN ?_ _) | (with_reducible refine Kd.C_drew ?_)))
                (case side2 => exact HC229_3.out)
                (case side3 => repeat (first | exact (Kd.C_below HR229_4.out HB.out) | (with_reducible refine Kd.C_alloc ?_ _) | (with_reducible refine Kd.C_drewN ?_ _) | (with_reducible refine Kd.C_drew ?_)))
                (case side4 => exact HC229_4.out)
                (case side5 => repeat (first | exact (Kd.C_below HR230_3.out HB.out) | (with_reducible refine Kd.C_alloc ?_ _) | (with_reducible refine Kd.C_drewN ?_ _) | (with_reducible refine Kd.C_drew ?_)))
                (case side6 => exact HC230_3.out)
                (case side7 => repeat (first | exact (Kd.C_below HR230_4.out HB.out) | (with_reducible refine Kd.C_alloc ?_ _) | (with_reducible refine Kd.C_drewN ?_ _) | (with_reducible refine Kd.C_drew ?_)))
                (case side8 => exact HC230_4.out)
                rintro e w10 ⟨rfl, hb⟩
                refine ⟨_, rfl, ?_⟩
                have n0_ := Aside0.mk (below_step (by repeat (first | (with_reducible first | exact HB.out | apply below_alloc | apply pw_below_drewN | apply below_drew1) | exact HB.out)) hb)
                clear HB
                have HB := n0_
                clear n0_
                (try clear hb)
                (try clear hb2)
                (try clear hk)
                (try clear hi)
                refine hK.out _ _ ⟨((HB.out.cell (World.block_lt_of_cell? w _ hw229_0)).trans hw229_0), ((HB.out.cell (World.block_lt_of_cell? w _ hw229_1)).trans hw229_1), ((HB.out.cell (World.block_lt_of_cell? w _ hw229_2)).trans hw229_2), ((HB.out.cell (World.block_lt_of_cell? w _ hw229_3)).trans hw229_3), ((HB.out.cell (World.block_lt_of_cell? w _ hw229_4)).trans hw229_4), ((HB.out.cell (World.block_lt_of_cell? w _ hw229_5)).trans hw229_5), ((HB.out.cell (World.block_lt_of_cell? w _ hw230_0)).trans hw230_0), ((HB.out.cell (World.block_lt_of_cell? w _ hw230_1)).trans hw230_1), ((HB.out.cell (World.block_lt_of_cell? w _ hw230_2)).trans hw230_2), ((HB.out.cell (World.block_lt_of_cell? w _ hw230_3)).trans hw230_3), ((HB.out.cell (World.block_lt_of_cell? w _ hw230_4)).trans hw230_4), ((HB.out.cell (World.block_lt_of_cell? w _ hw230_5)).trans hw230_5)⟩ (fun hHeld => ?_)
                clear hK K
                refine norm_ (a' := ?_) ?_ ?_
                rotate_left
                · show Act.put _ (some 25) _ = _
                  simp only [Act.put, List.setIfInBounds_toArray, List.set_cons_zero, List.set_cons_succ, i64_w, i32_w]
                  rfl
                refine pure_ (i := 9) (N := some 26) (v := ?_) (a' := ?_) #[true, true, true, true, true, true, true, true, true, true] rfl rfl (any_of HT_.out (by kernel_rfl)) (fun _ _ _ h => h) (Or.inl ⟨by rfl, ?_⟩) ?_ ?_
                rotate_left
                · intro w'
                  go_simp
                  with_reducible rfl
                rotate_left
                · simp only [Act.put, List.setIfInBounds_toArray, List.set_cons_zero, List.set_cons_succ, i64_w, i32_w]
                  rfl
                refine done_ (done_of HT_.out (by kernel_rfl)) ?_
                try go_wp2
                go_roundg k1
                case measure => have := HK1.out; omega
                case rel => exact ⟨(wrap64 (x5_1 + 1)), (by first | rfl | (simp; done) | (simp [*]; done)), H', ⟨by have := HK1.out; omega⟩, ⟨by repeat (first | (with_reducible first | exact HB.out | apply below_alloc | apply pw_below_drewN | apply below_drew1) | exact HB.out)⟩⟩
              · replace c8 := Bool.eq_false_iff.mpr c8
                subst c8
                have H1 : (some false) = some r := by rw [if_neg (show ¬ (false = true) by decide)] at H; exact H
                clear H
                have H := H1
                clear H1
                obtain rfl := Option.some.inj H
                try go_wp2
                have n0_ := Aside0.mk (below_drew1 HB.out)
                clear HB
                have HB := n0_
                clear n0_
                have p229 : 0 ≤ (x5_1 : Int) := of_decide_eq_true (by first | (with_reducible assumption) | assumption)
                have q229 : x5_1 < (l0.length : Int) := of_decide_eq_true (by first | (with_reducible assumption) | assumption)
                obtain ⟨ad229, A229_3, c229_3, A229_4, c229_4, e229, hx229_0, hx229_1, hx229_2, hx229_3, hx229_4, hx229_5, hl229_3, hi229_3, hl229_4, hi229_4⟩ := at_T39 HR0.out x5_1 p229 q229
                have hw229_5 := hx229_5
                have hw229_4 := hx229_4
                have hw229_3 := hx229_3
                have hw229_2 := hx229_2
                have hw229_1 := hx229_1
                have hw229_0 := hx229_0
                cases e229
                replace hx229_0 := (HB.out.cell (World.block_lt_of_cell? w _ hx229_0)).trans hx229_0
                replace hx229_1 := (HB.out.cell (World.block_lt_of_cell? w _ hx229_1)).trans hx229_1
                replace hx229_2 := (HB.out.cell (World.block_lt_of_cell? w _ hx229_2)).trans hx229_2
                replace hx229_3 := (HB.out.cell (World.block_lt_of_cell? w _ hx229_3)).trans hx229_3
                replace hx229_4 := (HB.out.cell (World.block_lt_of_cell? w _ hx229_4)).trans hx229_4
                replace hx229_5 := (HB.out.cell (World.block_lt_of_cell? w _ hx229_5)).trans hx229_5
                have HR229_3 := Aside0.mk hi229_3
                have HC229_3 := Aside0.mk hl229_3
                clear hi229_3 hl229_3
                have HR229_4 := Aside0.mk hi229_4
                have HC229_4 := Aside0.mk hl229_4
                clear hi229_4 hl229_4
                replace p229 := eq_true p229
                replace q229 := eq_true q229
                have p230 : 0 ≤ (x5_1 : Int) := of_decide_eq_true (by first | (with_reducible assumption) | assumption)
                have q230 : x5_1 < (l1.length : Int) := of_decide_eq_true (by first | (with_reducible assumption) | assumption)
                obtain ⟨ad230, A230_3, c230_3, A230_4, c230_4, e230, hx230_0, hx230_1, hx230_2, hx230_3, hx230_4, hx230_5, hl230_3, hi230_3, hl230_4, hi230_4⟩ := at_T39 HR1.out x5_1 p230 q230
                have hw230_5 := hx230_5
                have hw230_4 := hx230_4
                have hw230_3 := hx230_3
                have hw230_2 := hx230_2
                have hw230_1 := hx230_1
                have hw230_0 := hx230_0
                cases e230
                replace hx230_0 := (HB.out.cell (World.block_lt_of_cell? w _ hx230_0)).trans hx230_0
                replace hx230_1 := (HB.out.cell (World.block_lt_of_cell? w _ hx230_1)).trans hx230_1
                replace hx230_2 := (HB.out.cell (World.block_lt_of_cell? w _ hx230_2)).trans hx230_2
                replace hx230_3 := (HB.out.cell (World.block_lt_of_cell? w _ hx230_3)).trans hx230_3
                replace hx230_4 := (HB.out.cell (World.block_lt_of_cell? w _ hx230_4)).trans hx230_4
                replace hx230_5 := (HB.out.cell (World.block_lt_of_cell? w _ hx230_5)).trans hx230_5
                have HR230_3 := Aside0.mk hi230_3
                have HC230_3 := Aside0.mk hl230_3
                clear hi230_3 hl230_3
                have HR230_4 := Aside0.mk hi230_4
                have HC230_4 := Aside0.mk hl230_4
                clear hi230_4 hl230_4
                replace p230 := eq_true p230
                replace q230 := eq_true q230
                refine start_ (n := 10) (S := fun w' => w'.cell? (ad229.add ((x5_1).toNat * 6)) = some (.int .u32 ((rd_T39 l0 x5_1).f0)) ∧ w'.cell? ⟨(ad229.add ((x5_1).toNat * 6)).block, (ad229.add ((x5_1).toNat * 6)).off + 1, none⟩ = some (.int .u32 ((rd_T39 l0 x5_1).f1)) ∧ w'.cell? ⟨(ad229.add ((x5_1).toNat * 6)).block, (ad229.add ((x5_1).toNat * 6)).off + 2, none⟩ = some (.int .u32 ((rd_T39 l0 x5_1).f2)) ∧ w'.cell? ⟨(ad229.add ((x5_1).toNat * 6)).block, (ad229.add ((x5_1).toNat * 6)).off + 3, none⟩ = some (.slice A229_3 ((rd_T39 l0 x5_1).f3).length c229_3) ∧ w'.cell? ⟨(ad229.add ((x5_1).toNat * 6)).block, (ad229.add ((x5_1).toNat * 6)).off + 4, none⟩ = some (.slice A229_4 ((rd_T39 l0 x5_1).f4).length c229_4) ∧ w'.cell? ⟨(ad229.add ((x5_1).toNat * 6)).block, (ad229.add ((x5_1).toNat * 6)).off + 5, none⟩ = some (.bool ((rd_T39 l0 x5_1).f5)) ∧ w'.cell? (ad230.add ((x5_1).toNat * 6)) = some (.int .u32 ((rd_T39 l1 x5_1).f0)) ∧ w'.cell? ⟨(ad230.add ((x5_1).toNat * 6)).block, (ad230.add ((x5_1).toNat * 6)).off + 1, none⟩ = some (.int .u32 ((rd_T39 l1 x5_1).f1)) ∧ w'.cell? ⟨(ad230.add ((x5_1).toNat * 6)).block, (ad230.add ((x5_1).toNat * 6)).off + 2, none⟩ = some (.int .u32 ((rd_T39 l1 x5_1).f2)) ∧ w'.cell? ⟨(ad230.add ((x5_1).toNat * 6)).block, (ad230.add ((x5_1).toNat * 6)).off + 3, none⟩ = some (.slice A230_3 ((rd_T39 l1 x5_1).f3).length c230_3) ∧ w'.cell? ⟨(ad230.add ((x5_1).toNat * 6)).block, (ad230.add ((x5_1).toNat * 6)).off + 4, none⟩ = some (.slice A230_4 ((rd_T39 l1 x5_1).f4).length c230_4) ∧ w'.cell? ⟨(ad230.add ((x5_1).toNat * 6)).block, (ad230.add ((x5_1).toNat * 6)).off + 5, none⟩ = some (.bool ((rd_T39 l1 x5_1).f5))) (ds := []) #[false, false, false, false, false, false, false, false, false, false] (by kernel_rfl) rfl rfl ⟨((HB.out.cell (World.block_lt_of_cell? w _ hw229_0)).trans hw229_0), ((HB.out.cell (World.block_lt_of_cell? w _ hw229_1)).trans hw229_1), ((HB.out.cell (World.block_lt_of_cell? w _ hw229_2)).trans hw229_2), ((HB.out.cell (World.block_lt_of_cell? w _ hw229_3)).trans hw229_3), ((HB.out.cell (World.block_lt_of_cell? w _ hw229_4)).trans hw229_4), ((HB.out.cell (World.block_lt_of_cell? w _ hw229_5)).trans hw229_5), ((HB.out.cell (World.block_lt_of_cell? w _ hw230_0)).trans hw230_0), ((HB.out.cell (World.block_lt_of_cell? w _ hw230_1)).trans hw230_1), ((HB.out.cell (World.block_lt_of_cell? w _ hw230_2)).trans hw230_2), ((HB.out.cell (World.block_lt_of_cell? w _ hw230_3)).trans hw230_3), ((HB.out.cell (World.block_lt_of_cell? w _ hw230_4)).trans hw230_4), ((HB.out.cell (World.block_lt_of_cell? w _ hw230_5)).trans hw230_5)⟩ (fun hHeld => ?_); refine with_tabW chamberlainref10_Same.tab6 chamberlainref10_Same.bits6 (fun HT_ HW_ => ?_)
                generalize wr.drew = w11 at HB HR229_3 HR229_4 HR230_3 HR230_4 hx229_0 hx229_1 hx229_2 hx229_3 hx229_4 hx229_5 hx230_0 hx230_1 hx230_2 hx230_3 hx230_4 hx230_5 hHeld ⊢
                refine pure_ (i := 0) (N := some 17) (v := ?_) (a' := ?_) #[true, false, false, false, false, false, false, false, false, false] rfl rfl (any_of HT_.out (by kernel_rfl)) (fun _ _ _ h => h) (Or.inl ⟨by rfl, ?_⟩) ?_ ?_
                rotate_left
                · intro w'
                  go_simp
                  with_reducible rfl
                rotate_left
                · simp only [Act.put, List.setIfInBounds_toArray, List.set_cons_zero, List.set_cons_succ, i64_w, i32_w]
                  rfl
                refine pure_ (i := 1) (N := some 18) (v := ?_) (a' := ?_) #[true, true, false, false, false, false, false, false, false, false] rfl rfl (any_of HT_.out (by kernel_rfl)) (fun _ _ _ h => h) (Or.inl ⟨by rfl, ?_⟩) ?_ ?_
                rotate_left
                · intro w'
                  go_simp
                  with_reducible rfl
                rotate_left
                · simp only [Act.put, List.setIfInBounds_toArray, List.set_cons_zero, List.set_cons_succ, i64_w, i32_w]
                  rfl
                refine pure_ (i := 2) (N := some 19) (v := ?_) (a' := ?_) #[true, true, true, false, false, false, false, false, false, false] rfl rfl (any_of HT_.out (by kernel_rfl)) (fun _ _ _ h => h) (Or.inl ⟨by rfl, ?_⟩) ?_ ?_
                rotate_left
                · intro w'
                  go_simp
                  with_reducible rfl
                rotate_left
                · simp only [Act.put, List.setIfInBounds_toArray, List.set_cons_zero, List.set_cons_succ, i64_w, i32_w]
                  rfl
                refine pure_ (i := 4) (N := some 21) (v := ?_) (a' := ?_) #[true, true, true, false, true, false, false, false, false, false] rfl rfl (any_of HT_.out (by kernel_rfl)) (fun _ _ _ h => h) (Or.inl ⟨by rfl, ?_⟩) ?_ ?_
                rotate_left
                · intro w'
                  go_simp
                  with_reducible rfl
                rotate_left
                · simp only [Act.put, List.setIfInBounds_toArray, List.set_cons_zero, List.set_cons_succ, i64_w, i32_w]
                  rfl
                refine pure_ (i := 5) (N := some 22) (v := ?_) (a' := ?_) #[true, true, true, false, true, true, false, false, false, false] rfl rfl (any_of HT_.out (by kernel_rfl)) (fun _ _ _ h => h) (Or.inl ⟨by rfl, ?_⟩) ?_ ?_
                rotate_left
                · intro w'
                  go_simp
                  with_reducible rfl
                rotate_left
                · simp only [Act.put, List.setIfInBounds_toArray, List.set_cons_zero, List.set_cons_succ, i64_w, i32_w]
                  rfl
                refine pure_ (i := 6) (N := some 23) (v := ?_) (a' := ?_) #[true, true, true, false, true, true, true, false, false, false] rfl rfl (any_of HT_.out (by kernel_rfl)) (fun _ _ _ h => h) (Or.inl ⟨by rfl, ?_⟩) ?_ ?_
                rotate_left
                · intro w'
                  go_simp
                  with_reducible rfl
                rotate_left
                · simp only [Act.put, List.setIfInBounds_toArray, List.set_cons_zero, List.set_cons_succ, i64_w, i32_w]
                  rfl
                refine take_ (i := 3) (N := some 20) (v := ?_) (a' := ?_) #[true, true, true, true, true, true, true, false, false, false] rfl rfl (take_ofW HT_.out HW_.out (by kernel_rfl)) (fun _ _ _ h => h) (Or.inl ⟨by rfl, ?_⟩) hHeld ?_ ?_
                rotate_left
                · rintro w' ⟨s0, s1, s2, s3, s4, s5, s6, s7, s8, s9, s10, s11⟩
                  go_simp
                  with_reducible rfl
                rotate_left
                · simp only [Act.put, List.setIfInBounds_toArray, List.set_cons_zero, List.set_cons_succ, i64_w, i32_w]
                  rfl
                refine take_ (i := 7) (N := some 24) (v := ?_) (a' := ?_) #[true, true, true, true, true, true, true, true, false, false] rfl rfl (take_ofW HT_.out HW_.out (by kernel_rfl)) (fun _ _ _ h => h) (Or.inl ⟨by rfl, ?_⟩) hHeld ?_ ?_
                rotate_left
                · rintro w' ⟨s0, s1, s2, s3, s4, s5, s6, s7, s8, s9, s10, s11⟩
                  go_simp
                  with_reducible rfl
                rotate_left
                · simp only [Act.put, List.setIfInBounds_toArray, List.set_cons_zero, List.set_cons_succ, i64_w, i32_w]
                  rfl
                refine one_ (i := 8) (N := some 25) #[true, true, true, true, true, true, true, true, true, false] rfl rfl (one_of HT_.out (by kernel_rfl)) (by decide) (fun K hK => ?_)
                refine goes_ Try.func20 (by kernel_rfl) rfl #[.agg #[.int .u32 ((rd_T39 l0 x5_1).f0), .int .u32 ((rd_T39 l0 x5_1).f1), .int .u32 ((rd_T39 l0 x5_1).f2), .slice A229_3 ((rd_T39 l0 x5_1).f3).length c229_3, .slice A229_4 ((rd_T39 l0 x5_1).f4).length c229_4, .bool ((rd_T39 l0 x5_1).f5)], .agg #[.int .u32 ((rd_T39 l1 x5_1).f0), .int .u32 ((rd_T39 l1 x5_1).f1), .int .u32 ((rd_T39 l1 x5_1).f2), .slice A230_3 ((rd_T39 l1 x5_1).f3).length c230_3, .slice A230_4 ((rd_T39 l1 x5_1).f4).length c230_4, .bool ((rd_T39 l1 x5_1).f5)]] (by rfl) rfl rfl (by (try simp only [List.map_toArray, List.map_cons, List.map_nil]); first | done | rfl | (simp only [List.length_drop, List.length_take]; rfl)) ?_
                with_reducible refine (chamberlainref10_One.calls k1 ((rd_T39 l0 x5_1).f0) ((rd_T39 l0 x5_1).f1) ((rd_T39 l0 x5_1).f2) _ _ ((rd_T39 l0 x5_1).f3) _ _ ((rd_T39 l0 x5_1).f4) ((rd_T39 l0 x5_1).f5) ((rd_T39 l1 x5_1).f0) ((rd_T39 l1 x5_1).f1) ((rd_T39 l1 x5_1).f2) _ _ ((rd_T39 l1 x5_1).f3) _ _ ((rd_T39 l1 x5_1).f4) ((rd_T39 l1 x5_1).f5) false _ ?side1 ?side2 ?side3 ?side4 ?side5 ?side6 ?side7 ?side8 A7.out).mono ?_
                (case side1 => repeat (first | exact (Kd.C_below HR229_3.out HB.out) | (with_reducible refine Kd.C_alloc ?_ _) | (with_reducible refine Kd.C_drewN ?_ _) | (with_reducible refine Kd.C_drew ?_)))
                (case side2 => exact HC229_3.out)
                (case side3 => repeat (first | exact (Kd.C_below HR229_4.out HB.out) | (with_reducible refine Kd.C_alloc ?_ _) | (with_reducible refine Kd.C_drewN ?_ _) | (with_reducible refine Kd.C_drew ?_)))
                (case side4 => exact HC229_4.out)
                (case side5 => repeat (first | exact (Kd.C_below HR230_3.out HB.out) | (with_reducible refine Kd.C_alloc ?_ _) | (with_reducible refine Kd.C_drewN ?_ _) | (with_reducible refine Kd.C_drew ?_)))
                (case side6 => exact HC230_3.out)
                (case side7 => repeat (first | exact (Kd.C_below HR230_4.out HB.out) | (with_reducible refine Kd.C_alloc ?_ _) | (with_reducible refine Kd.C_drewN ?_ _) | (with_reducible refine Kd.C_drew ?_)))
                (case side8 => exact HC230_4.out)
                rintro e w12 ⟨rfl, hb⟩
                refine ⟨_, rfl, ?_⟩
                have n0_ := Aside0.mk (below_step (by repeat (first | (with_reducible first | exact HB.out | apply below_alloc | apply pw_below_drewN | apply below_drew1) | exact HB.out)) hb)
                clear HB
                have HB := n0_
                clear n0_
                (try clear hb)
                (try clear hb2)
                (try clear hk)
                (try clear hi)
                refine hK.out _ _ ⟨((HB.out.cell (World.block_lt_of_cell? w _ hw229_0)).trans hw229_0), ((HB.out.cell (World.block_lt_of_cell? w _ hw229_1)).trans hw229_1), ((HB.out.cell (World.block_lt_of_cell? w _ hw229_2)).trans hw229_2), ((HB.out.cell (World.block_lt_of_cell? w _ hw229_3)).trans hw229_3), ((HB.out.cell (World.block_lt_of_cell? w _ hw229_4)).trans hw229_4), ((HB.out.cell (World.block_lt_of_cell? w _ hw229_5)).trans hw229_5), ((HB.out.cell (World.block_lt_of_cell? w _ hw230_0)).trans hw230_0), ((HB.out.cell (World.block_lt_of_cell? w _ hw230_1)).trans hw230_1), ((HB.out.cell (World.block_lt_of_cell? w _ hw230_2)).trans hw230_2), ((HB.out.cell (World.block_lt_of_cell? w _ hw230_3)).trans hw230_3), ((HB.out.cell (World.block_lt_of_cell? w _ hw230_4)).trans hw230_4), ((HB.out.cell (World.block_lt_of_cell? w _ hw230_5)).trans hw230_5)⟩ (fun hHeld => ?_)
                clear hK K
                refine norm_ (a' := ?_) ?_ ?_
                rotate_left
                · show Act.put _ (some 25) _ = _
                  simp only [Act.put, List.setIfInBounds_toArray, List.set_cons_zero, List.set_cons_succ, i64_w, i32_w]
                  rfl
                refine pure_ (i := 9) (N := some 26) (v := ?_) (a' := ?_) #[true, true, true, true, true, true, true, true, true, true] rfl rfl (any_of HT_.out (by kernel_rfl)) (fun _ _ _ h => h) (Or.inl ⟨by rfl, ?_⟩) ?_ ?_
                rotate_left
                · intro w'
                  go_simp
                  with_reducible rfl
                rotate_left
                · simp only [Act.put, List.setIfInBounds_toArray, List.set_cons_zero, List.set_cons_succ, i64_w, i32_w]
                  rfl
                refine done_ (done_of HT_.out (by kernel_rfl)) ?_
                try go_wp2
                go_ret
                exact ⟨by first | rfl | (simp [errW_none, errW_some] <;> rfl) | (simp [*, errW_none, errW_some] <;> rfl), by repeat (first | (with_reducible first | exact HB.out | apply below_alloc | apply pw_below_drewN | apply below_drew1) | exact HB.out)⟩
            · rw [if_neg c6] at H
              exact absurd H (by simp)
          · rw [if_neg c5] at H
            exact absurd H (by simp)
        · rw [if_neg c4] at H
          have c4b0 : decide (x5_1 < (l0.length : Int)) = false := decide_eq_false c4
          clear c4
          obtain rfl := Option.some.inj H
          go_wp2
          go_ret
          exact ⟨by first | rfl | (simp [errW_none, errW_some] <;> rfl) | (simp [*, errW_none, errW_some] <;> rfl), by repeat (first | (with_reducible first | exact HB.out | apply below_alloc | apply pw_below_drewN | apply below_drew1) | exact HB.out)⟩
  · rw [if_neg c3] at H
    have c3b0 : ((l0.length : Int) == (l1.length : Int)) = false := beq_eq_false_iff_ne.mpr c3
    have c3b1 : ((l0.length : Int) != (l1.length : Int)) = true := bne_iff_ne.mpr c3
    have c3b2 : (l0.length == l1.length) = false := by first | simpa using c3 | (simp at c3 ⊢; omega)
    obtain rfl := Option.some.inj H
    go_enter Try.func15, Try.ntmps15
    go_wp2
    go_ret
    exact ⟨by first | rfl | (simp [errW_none, errW_some] <;> rfl) | (simp [*, errW_none, errW_some] <;> rfl), by repeat (first | (with_reducible first | exact HB.out | apply below_alloc | apply pw_below_drewN | apply below_drew1) | exact HB.out)⟩

end Go.Proofs.Ytlgbahgddpggfaa.PPeopleKeeps
