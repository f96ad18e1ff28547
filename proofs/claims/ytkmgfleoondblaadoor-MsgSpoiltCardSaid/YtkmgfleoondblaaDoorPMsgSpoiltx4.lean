-- Written for this claim by wip/tools/myprint.py (print.py's forms; proofs of the faked functions by hand).
import Derived.Test.YtkmgfleoondblaaDoorPMsgSpoiltx1
import Derived.Test.YtkmgfleoondblaaDoorPMsgSpoiltx2
import Derived.Test.YtkmgfleoondblaaDoorPMsgSpoiltx3
import Derived.Test.YtkmgfleoondblaaDoorPMsgSpoiltx0
namespace Go.Proofs.YtkmgfleoondblaaDoor.PMsgSpoilt
open Go.RowKit Go.Proofs.YtkmgfleoondblaaDoorW.PrintWords Go.Proofs.YtkmgfleoondblaaDoorW.PrintLast Go.Proofs.YtkmgfleoondblaaDoorW.PrintMore
attribute [local go_sem] max2_int min2_int max_two min_two max_three min_three max_four min_four   -- for this text's walks alone
set_option linter.unusedVariables false
set_option linter.unusedSimpArgs false

/-! ### chamberlainref03_Has: function 22 -/
def chamberlainref03_Has.j0 : Nat → Int → Int → Bool → Option (Bool)
  | 0, _, _, _ => none
  | k + 1, x1, x5, x18 => if x18 = true then (some (x1 == 6)) else (if x5 = 6 then (if x1 = 2 then (some true) else (if x1 = 3 then (some true) else (if x1 = 4 then (some true) else (some (x1 == 6))))) else (if x5 = 7 then (if x1 = 2 then (some true) else (if x1 = 3 then (some true) else (if x1 = 4 then (some true) else (if x1 = 6 then (some true) else (some (x1 == 7)))))) else (if x5 = 8 then (if x1 = 2 then (some true) else (if x1 = 6 then (some true) else (some (x1 == 7)))) else (if x5 = 9 then (if x1 = 2 then (some true) else (some (x1 == 6))) else (some false)))))
def chamberlainref03_Has.f (k : Nat) (a0 : Int) (a1 : Int) : Option (Bool) := if a0 = 1 then (if a1 = 3 then (some true) else (if a1 = 4 then (some true) else (some (a1 == 5)))) else (if a0 = 2 then (chamberlainref03_Has.j0 k a1 a0 (a0 == 2)) else (if a0 = 3 then (chamberlainref03_Has.j0 k a1 a0 (a0 == 3)) else (if a0 = 4 then (chamberlainref03_Has.j0 k a1 a0 (a0 == 4)) else (chamberlainref03_Has.j0 k a1 a0 (a0 == 5)))))
theorem chamberlainref03_Has.mono_l : ∀ k, (∀ y0 y1 y2, LeO (chamberlainref03_Has.j0 k y0 y1 y2) (chamberlainref03_Has.j0 (k + 1) y0 y1 y2))
  | 0 => fun _ _ _ r h => by simp [chamberlainref03_Has.j0] at h
  | k + 1 => by
    have ih0 := chamberlainref03_Has.mono_l k
    · intro y0 y1 y2
      unfold chamberlainref03_Has.j0
      repeat' first
      | (with_reducible exact ih0 _ _ _)
      | (with_reducible exact LeO.refl _)
      | (with_reducible exact LeO.none _)
      | (with_reducible refine LeO.ite ?_ ?_)
      | (with_reducible refine LeO.bind ?_ (fun _ => ?_))
      | exact ih0 _ _ _
      | exact LeO.none _
      | refine LeO.ite ?_ ?_
      | refine LeO.bind ?_ (fun _ => ?_)
theorem chamberlainref03_Has.mono : ∀ a0 a1 k, LeO (chamberlainref03_Has.f k a0 a1) (chamberlainref03_Has.f (k + 1) a0 a1) := by
  intro a0 a1 k
  have ih0 := chamberlainref03_Has.mono_l k
  unfold chamberlainref03_Has.f
  repeat' first
      | (with_reducible exact ih0 _ _ _)
      | (with_reducible exact LeO.refl _)
      | (with_reducible exact LeO.none _)
      | (with_reducible refine LeO.ite ?_ ?_)
      | (with_reducible refine LeO.bind ?_ (fun _ => ?_))
      | exact ih0 _ _ _
      | exact LeO.none _
      | refine LeO.ite ?_ ?_
      | refine LeO.bind ?_ (fun _ => ?_)
set_option maxHeartbeats 8000000 in
set_option maxRecDepth 100000 in
theorem chamberlainref03_Has.calls (k : Nat) (a0 : Int) (a1 : Int) (r : Bool) (w : World) (h : chamberlainref03_Has.f k a0 a1 = some r) :
    Calls Tryd.prog 22 #[.int .u32 a0, .int .u32 a1] w fun e w' => e = .returned (.bool r) ∧ Drawn0 w w' := by
  have H : (if a0 = 1 then (if a1 = 3 then (some true) else (if a1 = 4 then (some true) else (some (a1 == 5)))) else (if a0 = 2 then (chamberlainref03_Has.j0 k a1 a0 (a0 == 2)) else (if a0 = 3 then (chamberlainref03_Has.j0 k a1 a0 (a0 == 3)) else (if a0 = 4 then (chamberlainref03_Has.j0 k a1 a0 (a0 == 4)) else (chamberlainref03_Has.j0 k a1 a0 (a0 == 5)))))) = some r := h
  clear h
  by_cases c3 : a0 = 1
  · rw [if_pos c3] at H
    have c3b0 : (a0 == 1) = true := beq_iff_eq.mpr c3
    have c3b1 : (a0 != 1) = false := bne_eq_false_iff_eq.mpr c3
    clear c3
    by_cases c4 : a1 = 3
    · rw [if_pos c4] at H
      have c4b0 : (a1 == 3) = true := beq_iff_eq.mpr c4
      have c4b1 : (a1 != 3) = false := bne_eq_false_iff_eq.mpr c4
      clear c4
      obtain rfl := Option.some.inj H
      go_enter Tryd.func22, Tryd.ntmps22
      go_wp2
      go_ret
      exact ⟨by first | rfl | (simp; done) | (simp [*]; done), by repeat (first | exact Drawn0.refl _ | apply Drawn0.step)⟩
    · rw [if_neg c4] at H
      have c4b0 : (a1 == 3) = false := beq_eq_false_iff_ne.mpr c4
      have c4b1 : (a1 != 3) = true := bne_iff_ne.mpr c4
      by_cases c5 : a1 = 4
      · rw [if_pos c5] at H
        have c5b0 : (a1 == 4) = true := beq_iff_eq.mpr c5
        have c5b1 : (a1 != 4) = false := bne_eq_false_iff_eq.mpr c5
        clear c5
        obtain rfl := Option.some.inj H
        go_enter Tryd.func22, Tryd.ntmps22
        go_wp2
        go_ret
        exact ⟨by first | rfl | (simp; done) | (simp [*]; done), by repeat (first | exact Drawn0.refl _ | apply Drawn0.step)⟩
      · rw [if_neg c5] at H
        have c5b0 : (a1 == 4) = false := beq_eq_false_iff_ne.mpr c5
        have c5b1 : (a1 != 4) = true := bne_iff_ne.mpr c5
        obtain rfl := Option.some.inj H
        go_enter Tryd.func22, Tryd.ntmps22
        go_wp2
        go_ret
        exact ⟨by first | rfl | (simp; done) | (simp [*]; done), by repeat (first | exact Drawn0.refl _ | apply Drawn0.step)⟩
  · rw [if_neg c3] at H
    have c3b0 : (a0 == 1) = false := beq_eq_false_iff_ne.mpr c3
    have c3b1 : (a0 != 1) = true := bne_iff_ne.mpr c3
    have HC6 := Aside0.mk H
    clear H
    go_enter Tryd.func22, Tryd.ntmps22
    go_upto_if 18 with (fail)
    go_cut [18] (fun v18 wc => ∃ (kq : Nat) (x18_5 : Bool), v18 = .bool x18_5 ∧ Aside0 (chamberlainref03_Has.j0 kq a1 a0 x18_5 = some r) ∧ Aside0 (kq ≤ k) ∧ Drawn0 w wc)
    case first =>
      have H := HC6.out
      clear HC6
      by_cases c7 : a0 = 2
      · rw [if_pos c7] at H
        have c7b0 : (a0 == 2) = true := beq_iff_eq.mpr c7
        have c7b1 : (a0 != 2) = false := bne_eq_false_iff_eq.mpr c7
        clear c7
        (first | rw [c7b0] | (simp only [i64_w, i32_w]; rw [c7b0]) | skip)
        have H' := Aside0.mk H
        clear H
        go_wp2
        go_meet
        case rel => exact ⟨_, ((a0 == 2)), (by first | rfl | (simp; done) | (simp [*]; done)), H', ⟨by first | omega | exact Nat.le_refl _⟩, by repeat (first | exact Drawn0.refl _ | apply Drawn0.step)⟩
      · rw [if_neg c7] at H
        have c7b0 : (a0 == 2) = false := beq_eq_false_iff_ne.mpr c7
        have c7b1 : (a0 != 2) = true := bne_iff_ne.mpr c7
        (first | rw [c7b0] | (simp only [i64_w, i32_w]; rw [c7b0]) | skip)
        by_cases c8 : a0 = 3
        · rw [if_pos c8] at H
          have c8b0 : (a0 == 3) = true := beq_iff_eq.mpr c8
          have c8b1 : (a0 != 3) = false := bne_eq_false_iff_eq.mpr c8
          clear c8
          have H' := Aside0.mk H
          clear H
          go_wp2
          go_meet
          case rel => exact ⟨_, ((a0 == 3)), (by first | rfl | (simp; done) | (simp [*]; done)), H', ⟨by first | omega | exact Nat.le_refl _⟩, by repeat (first | exact Drawn0.refl _ | apply Drawn0.step)⟩
        · rw [if_neg c8] at H
          have c8b0 : (a0 == 3) = false := beq_eq_false_iff_ne.mpr c8
          have c8b1 : (a0 != 3) = true := bne_iff_ne.mpr c8
          by_cases c9 : a0 = 4
          · rw [if_pos c9] at H
            have c9b0 : (a0 == 4) = true := beq_iff_eq.mpr c9
            have c9b1 : (a0 != 4) = false := bne_eq_false_iff_eq.mpr c9
            clear c9
            have H' := Aside0.mk H
            clear H
            go_wp2
            go_meet
            case rel => exact ⟨_, ((a0 == 4)), (by first | rfl | (simp; done) | (simp [*]; done)), H', ⟨by first | omega | exact Nat.le_refl _⟩, by repeat (first | exact Drawn0.refl _ | apply Drawn0.step)⟩
          · rw [if_neg c9] at H
            have c9b0 : (a0 == 4) = false := beq_eq_false_iff_ne.mpr c9
            have c9b1 : (a0 != 4) = true := bne_iff_ne.mpr c9
            have H' := Aside0.mk H
            clear H
            go_wp2
            go_meet
            case rel => exact ⟨_, ((a0 == 5)), (by first | rfl | (simp; done) | (simp [*]; done)), H', ⟨by first | omega | exact Nat.le_refl _⟩, by repeat (first | exact Drawn0.refl _ | apply Drawn0.step)⟩
    case rest =>
      clear HC6
      try clear c2
      try clear p2
      try clear c3
      try clear c3b0
      try clear c3b1
      try clear c4
      try clear c4b0
      try clear c4b1
      try clear c5
      try clear c5b0
      try clear c5b1
      try clear c7
      try clear c7b0
      try clear c7b1
      try clear c8
      try clear c8b0
      try clear c8b1
      try clear c9
      try clear c9b0
      try clear c9b1
      obtain ⟨kq, x18_5, rfl, HA, HJ5, ⟨mc5, rfl⟩⟩ := hcut
      cases kq with
      | zero => exact absurd HA.out (by simp [chamberlainref03_Has.j0])
      | succ kj5 =>
        have H := HA.out
        clear HA
        simp only [chamberlainref03_Has.j0] at H
        by_cases c10 : x18_5 = true
        · subst c10
          have H1 : (some (a1 == 6)) = some r := by rw [if_pos rfl] at H; exact H
          clear H
          have H := H1
          clear H1
          obtain rfl := Option.some.inj H
          go_wp2
          go_ret
          exact ⟨by first | rfl | (simp; done) | (simp [*]; done), by repeat (first | exact Drawn0.refl _ | apply Drawn0.step)⟩
        · replace c10 := Bool.eq_false_iff.mpr c10
          subst c10
          have H1 : (if a0 = 6 then (if a1 = 2 then (some true) else (if a1 = 3 then (some true) else (if a1 = 4 then (some true) else (some (a1 == 6))))) else (if a0 = 7 then (if a1 = 2 then (some true) else (if a1 = 3 then (some true) else (if a1 = 4 then (some true) else (if a1 = 6 then (some true) else (some (a1 == 7)))))) else (if a0 = 8 then (if a1 = 2 then (some true) else (if a1 = 6 then (some true) else (some (a1 == 7)))) else (if a0 = 9 then (if a1 = 2 then (some true) else (some (a1 == 6))) else (some false))))) = some r := by rw [if_neg (show ¬ (false = true) by decide)] at H; exact H
          clear H
          have H := H1
          clear H1
          by_cases c11 : a0 = 6
          · rw [if_pos c11] at H
            have c11b0 : (a0 == 6) = true := beq_iff_eq.mpr c11
            have c11b1 : (a0 != 6) = false := bne_eq_false_iff_eq.mpr c11
            clear c11
            by_cases c12 : a1 = 2
            · rw [if_pos c12] at H
              have c12b0 : (a1 == 2) = true := beq_iff_eq.mpr c12
              have c12b1 : (a1 != 2) = false := bne_eq_false_iff_eq.mpr c12
              clear c12
              obtain rfl := Option.some.inj H
              go_wp2
              go_ret
              exact ⟨by first | rfl | (simp; done) | (simp [*]; done), by repeat (first | exact Drawn0.refl _ | apply Drawn0.step)⟩
            · rw [if_neg c12] at H
              have c12b0 : (a1 == 2) = false := beq_eq_false_iff_ne.mpr c12
              have c12b1 : (a1 != 2) = true := bne_iff_ne.mpr c12
              by_cases c13 : a1 = 3
              · rw [if_pos c13] at H
                have c13b0 : (a1 == 3) = true := beq_iff_eq.mpr c13
                have c13b1 : (a1 != 3) = false := bne_eq_false_iff_eq.mpr c13
                clear c13
                obtain rfl := Option.some.inj H
                go_wp2
                go_ret
                exact ⟨by first | rfl | (simp; done) | (simp [*]; done), by repeat (first | exact Drawn0.refl _ | apply Drawn0.step)⟩
              · rw [if_neg c13] at H
                have c13b0 : (a1 == 3) = false := beq_eq_false_iff_ne.mpr c13
                have c13b1 : (a1 != 3) = true := bne_iff_ne.mpr c13
                by_cases c14 : a1 = 4
                · rw [if_pos c14] at H
                  have c14b0 : (a1 == 4) = true := beq_iff_eq.mpr c14
                  have c14b1 : (a1 != 4) = false := bne_eq_false_iff_eq.mpr c14
                  clear c14
                  obtain rfl := Option.some.inj H
                  go_wp2
                  go_ret
                  exact ⟨by first | rfl | (simp; done) | (simp [*]; done), by repeat (first | exact Drawn0.refl _ | apply Drawn0.step)⟩
                · rw [if_neg c14] at H
                  have c14b0 : (a1 == 4) = false := beq_eq_false_iff_ne.mpr c14
                  have c14b1 : (a1 != 4) = true := bne_iff_ne.mpr c14
                  obtain rfl := Option.some.inj H
                  go_wp2
                  go_ret
                  exact ⟨by first | rfl | (simp; done) | (simp [*]; done), by repeat (first | exact Drawn0.refl _ | apply Drawn0.step)⟩
          · rw [if_neg c11] at H
            have c11b0 : (a0 == 6) = false := beq_eq_false_iff_ne.mpr c11
            have c11b1 : (a0 != 6) = true := bne_iff_ne.mpr c11
            by_cases c15 : a0 = 7
            · rw [if_pos c15] at H
              have c15b0 : (a0 == 7) = true := beq_iff_eq.mpr c15
              have c15b1 : (a0 != 7) = false := bne_eq_false_iff_eq.mpr c15
              clear c15
              by_cases c16 : a1 = 2
              · rw [if_pos c16] at H
                have c16b0 : (a1 == 2) = true := beq_iff_eq.mpr c16
                have c16b1 : (a1 != 2) = false := bne_eq_false_iff_eq.mpr c16
                clear c16
                obtain rfl := Option.some.inj H
                go_wp2
                go_ret
                exact ⟨by first | rfl | (simp; done) | (simp [*]; done), by repeat (first | exact Drawn0.refl _ | apply Drawn0.step)⟩
              · rw [if_neg c16] at H
                have c16b0 : (a1 == 2) = false := beq_eq_false_iff_ne.mpr c16
                have c16b1 : (a1 != 2) = true := bne_iff_ne.mpr c16
                by_cases c17 : a1 = 3
                · rw [if_pos c17] at H
                  have c17b0 : (a1 == 3) = true := beq_iff_eq.mpr c17
                  have c17b1 : (a1 != 3) = false := bne_eq_false_iff_eq.mpr c17
                  clear c17
                  obtain rfl := Option.some.inj H
                  go_wp2
                  go_ret
                  exact ⟨by first | rfl | (simp; done) | (simp [*]; done), by repeat (first | exact Drawn0.refl _ | apply Drawn0.step)⟩
                · rw [if_neg c17] at H
                  have c17b0 : (a1 == 3) = false := beq_eq_false_iff_ne.mpr c17
                  have c17b1 : (a1 != 3) = true := bne_iff_ne.mpr c17
                  by_cases c18 : a1 = 4
                  · rw [if_pos c18] at H
                    have c18b0 : (a1 == 4) = true := beq_iff_eq.mpr c18
                    have c18b1 : (a1 != 4) = false := bne_eq_false_iff_eq.mpr c18
                    clear c18
                    obtain rfl := Option.some.inj H
                    go_wp2
                    go_ret
                    exact ⟨by first | rfl | (simp; done) | (simp [*]; done), by repeat (first | exact Drawn0.refl _ | apply Drawn0.step)⟩
                  · rw [if_neg c18] at H
                    have c18b0 : (a1 == 4) = false := beq_eq_false_iff_ne.mpr c18
                    have c18b1 : (a1 != 4) = true := bne_iff_ne.mpr c18
                    by_cases c19 : a1 = 6
                    · rw [if_pos c19] at H
                      have c19b0 : (a1 == 6) = true := beq_iff_eq.mpr c19
                      have c19b1 : (a1 != 6) = false := bne_eq_false_iff_eq.mpr c19
                      clear c19
                      obtain rfl := Option.some.inj H
                      go_wp2
                      go_ret
                      exact ⟨by first | rfl | (simp; done) | (simp [*]; done), by repeat (first | exact Drawn0.refl _ | apply Drawn0.step)⟩
                    · rw [if_neg c19] at H
                      have c19b0 : (a1 == 6) = false := beq_eq_false_iff_ne.mpr c19
                      have c19b1 : (a1 != 6) = true := bne_iff_ne.mpr c19
                      obtain rfl := Option.some.inj H
                      go_wp2
                      go_ret
                      exact ⟨by first | rfl | (simp; done) | (simp [*]; done), by repeat (first | exact Drawn0.refl _ | apply Drawn0.step)⟩
            · rw [if_neg c15] at H
              have c15b0 : (a0 == 7) = false := beq_eq_false_iff_ne.mpr c15
              have c15b1 : (a0 != 7) = true := bne_iff_ne.mpr c15
              by_cases c20 : a0 = 8
              · rw [if_pos c20] at H
                have c20b0 : (a0 == 8) = true := beq_iff_eq.mpr c20
                have c20b1 : (a0 != 8) = false := bne_eq_false_iff_eq.mpr c20
                clear c20
                by_cases c21 : a1 = 2
                · rw [if_pos c21] at H
                  have c21b0 : (a1 == 2) = true := beq_iff_eq.mpr c21
                  have c21b1 : (a1 != 2) = false := bne_eq_false_iff_eq.mpr c21
                  clear c21
                  obtain rfl := Option.some.inj H
                  go_wp2
                  go_ret
                  exact ⟨by first | rfl | (simp; done) | (simp [*]; done), by repeat (first | exact Drawn0.refl _ | apply Drawn0.step)⟩
                · rw [if_neg c21] at H
                  have c21b0 : (a1 == 2) = false := beq_eq_false_iff_ne.mpr c21
                  have c21b1 : (a1 != 2) = true := bne_iff_ne.mpr c21
                  by_cases c22 : a1 = 6
                  · rw [if_pos c22] at H
                    have c22b0 : (a1 == 6) = true := beq_iff_eq.mpr c22
                    have c22b1 : (a1 != 6) = false := bne_eq_false_iff_eq.mpr c22
                    clear c22
                    obtain rfl := Option.some.inj H
                    go_wp2
                    go_ret
                    exact ⟨by first | rfl | (simp; done) | (simp [*]; done), by repeat (first | exact Drawn0.refl _ | apply Drawn0.step)⟩
                  · rw [if_neg c22] at H
                    have c22b0 : (a1 == 6) = false := beq_eq_false_iff_ne.mpr c22
                    have c22b1 : (a1 != 6) = true := bne_iff_ne.mpr c22
                    obtain rfl := Option.some.inj H
                    go_wp2
                    go_ret
                    exact ⟨by first | rfl | (simp; done) | (simp [*]; done), by repeat (first | exact Drawn0.refl _ | apply Drawn0.step)⟩
              · rw [if_neg c20] at H
                have c20b0 : (a0 == 8) = false := beq_eq_false_iff_ne.mpr c20
                have c20b1 : (a0 != 8) = true := bne_iff_ne.mpr c20
                by_cases c23 : a0 = 9
                · rw [if_pos c23] at H
                  have c23b0 : (a0 == 9) = true := beq_iff_eq.mpr c23
                  have c23b1 : (a0 != 9) = false := bne_eq_false_iff_eq.mpr c23
                  clear c23
                  by_cases c24 : a1 = 2
                  · rw [if_pos c24] at H
                    have c24b0 : (a1 == 2) = true := beq_iff_eq.mpr c24
                    have c24b1 : (a1 != 2) = false := bne_eq_false_iff_eq.mpr c24
                    clear c24
                    obtain rfl := Option.some.inj H
                    go_wp2
                    go_ret
                    exact ⟨by first | rfl | (simp; done) | (simp [*]; done), by repeat (first | exact Drawn0.refl _ | apply Drawn0.step)⟩
                  · rw [if_neg c24] at H
                    have c24b0 : (a1 == 2) = false := beq_eq_false_iff_ne.mpr c24
                    have c24b1 : (a1 != 2) = true := bne_iff_ne.mpr c24
                    obtain rfl := Option.some.inj H
                    go_wp2
                    go_ret
                    exact ⟨by first | rfl | (simp; done) | (simp [*]; done), by repeat (first | exact Drawn0.refl _ | apply Drawn0.step)⟩
                · rw [if_neg c23] at H
                  have c23b0 : (a0 == 9) = false := beq_eq_false_iff_ne.mpr c23
                  have c23b1 : (a0 != 9) = true := bne_iff_ne.mpr c23
                  obtain rfl := Option.some.inj H
                  go_wp2
                  go_ret
                  exact ⟨by first | rfl | (simp; done) | (simp [*]; done), by repeat (first | exact Drawn0.refl _ | apply Drawn0.step)⟩

/-! ### chamberlainref03_Bare: function 17 -/
def chamberlainref03_Bare.l0 : Nat → Int → Int → Int → Int → Int → Int → Int → Int → Int → Option (Int × Int × Int × Int × Int × Int × Int)
  | 0, _, _, _, _, _, _, _, _, _ => none
  | k + 1, x0, x6, x242000, x242001, x242002, x242003, x242004, x242005, x242006 => if x6 ≤ 7 then ((chamberlainref03_Has.f k x0 x6).bind fun t242 => (if t242 = true then (chamberlainref03_Bare.l0 k x0 ((x6 + 1) % 4294967296) x242000 x242001 x242002 x242003 x242004 x242005 x242006) else (if x6 = 2 then (chamberlainref03_Bare.l0 k x0 ((x6 + 1) % 4294967296) x242000 0 x242002 x242003 x242004 x242005 x242006) else (if x6 = 3 then (chamberlainref03_Bare.l0 k x0 ((x6 + 1) % 4294967296) x242000 x242001 0 x242003 x242004 x242005 x242006) else (if x6 = 4 then (chamberlainref03_Bare.l0 k x0 ((x6 + 1) % 4294967296) x242000 x242001 x242002 0 x242004 x242005 x242006) else (if x6 = 5 then (chamberlainref03_Bare.l0 k x0 ((x6 + 1) % 4294967296) x242000 x242001 x242002 x242003 0 x242005 x242006) else (if x6 = 6 then (chamberlainref03_Bare.l0 k x0 ((x6 + 1) % 4294967296) x242000 x242001 x242002 x242003 x242004 0 x242006) else (if x6 = 7 then (chamberlainref03_Bare.l0 k x0 ((x6 + 1) % 4294967296) x242000 x242001 x242002 x242003 x242004 x242005 0) else (chamberlainref03_Bare.l0 k x0 ((x6 + 1) % 4294967296) x242000 x242001 x242002 x242003 x242004 x242005 x242006))))))))) else (some (x242000, x242001, x242002, x242003, x242004, x242005, x242006))
def chamberlainref03_Bare.f (k : Nat) (a0 : Int) (a1_0 : Int) (a1_1 : Int) (a1_2 : Int) (a1_3 : Int) (a1_4 : Int) (a1_5 : Int) : Option (Int × Int × Int × Int × Int × Int × Int) := chamberlainref03_Bare.l0 k a0 2 a0 a1_0 a1_1 a1_2 a1_3 a1_4 a1_5
theorem chamberlainref03_Bare.mono_l : ∀ k, (∀ y0 y1 y2 y3 y4 y5 y6 y7 y8, LeO (chamberlainref03_Bare.l0 k y0 y1 y2 y3 y4 y5 y6 y7 y8) (chamberlainref03_Bare.l0 (k + 1) y0 y1 y2 y3 y4 y5 y6 y7 y8))
  | 0 => fun _ _ _ _ _ _ _ _ _ r h => by simp [chamberlainref03_Bare.l0] at h
  | k + 1 => by
    have ih0 := chamberlainref03_Bare.mono_l k
    · intro y0 y1 y2 y3 y4 y5 y6 y7 y8
      unfold chamberlainref03_Bare.l0
      repeat' first
      | (with_reducible exact ih0 _ _ _ _ _ _ _ _ _)
      | (with_reducible exact chamberlainref03_Has.mono _ _ _)
      | (with_reducible exact LeO.refl _)
      | (with_reducible exact LeO.none _)
      | (with_reducible refine LeO.ite ?_ ?_)
      | (with_reducible refine LeO.bind ?_ (fun _ => ?_))
      | exact ih0 _ _ _ _ _ _ _ _ _
      | exact chamberlainref03_Has.mono _ _ _
      | exact LeO.none _
      | refine LeO.ite ?_ ?_
      | refine LeO.bind ?_ (fun _ => ?_)
theorem chamberlainref03_Bare.mono : ∀ a0 a1 a2 a3 a4 a5 a6 k, LeO (chamberlainref03_Bare.f k a0 a1 a2 a3 a4 a5 a6) (chamberlainref03_Bare.f (k + 1) a0 a1 a2 a3 a4 a5 a6) := by
  intro a0 a1 a2 a3 a4 a5 a6 k
  have ih0 := chamberlainref03_Bare.mono_l k
  unfold chamberlainref03_Bare.f
  repeat' first
      | (with_reducible exact ih0 _ _ _ _ _ _ _ _ _)
      | (with_reducible exact chamberlainref03_Has.mono _ _ _)
      | (with_reducible exact LeO.refl _)
      | (with_reducible exact LeO.none _)
      | (with_reducible refine LeO.ite ?_ ?_)
      | (with_reducible refine LeO.bind ?_ (fun _ => ?_))
      | exact ih0 _ _ _ _ _ _ _ _ _
      | exact chamberlainref03_Has.mono _ _ _
      | exact LeO.none _
      | refine LeO.ite ?_ ?_
      | refine LeO.bind ?_ (fun _ => ?_)
theorem bare.idx (g c : Nat) (hc : c < 6) (W : World) : (Instr.indexAt 41 (.pointer (some ⟨g, 0, none⟩)) (.int .i64 (c : Int))).run Tryd.prog W = .ok (.pointer (some ⟨g, c, none⟩)) W := by
  have h : c = 0 ∨ c = 1 ∨ c = 2 ∨ c = 3 ∨ c = 4 ∨ c = 5 := by omega
  rcases h with rfl | rfl | rfl | rfl | rfl | rfl <;> rfl
set_option maxHeartbeats 8000000 in
set_option maxRecDepth 100000 in
theorem chamberlainref03_Bare.calls (k : Nat) (a0 : Int) (a1_0 : Int) (a1_1 : Int) (a1_2 : Int) (a1_3 : Int) (a1_4 : Int) (a1_5 : Int) (r1 : Int) (r2 : Int) (r3 : Int) (r4 : Int) (r5 : Int) (r6 : Int) (r7 : Int) (w : World) (h : chamberlainref03_Bare.f k a0 a1_0 a1_1 a1_2 a1_3 a1_4 a1_5 = some (r1, r2, r3, r4, r5, r6, r7)) :
    Calls Tryd.prog 17 #[.int .u32 a0, .agg #[.int .u32 a1_0, .int .u32 a1_1, .int .u32 a1_2, .int .u32 a1_3, .int .u32 a1_4, .int .u32 a1_5]] w fun e w' => e = .returned (.agg #[.int .u32 r1, .int .u32 r2, .int .u32 r3, .int .u32 r4, .int .u32 r5, .int .u32 r6, .int .u32 r7]) ∧ Below w.heap.size w w' := by
  have hu41 := Tryd.underlying41
  have hu24 := Tryd.underlying24
  have HI0 : ∀ (g : Nat) (W : World), (Instr.indexAt 41 (.pointer (some ⟨g, 0, none⟩)) (.int .i64 0)).run Tryd.prog W = .ok (.pointer (some ⟨g, 0, none⟩)) W := fun g W => bare.idx g 0 (by decide) W
  have HI1 : ∀ (g : Nat) (W : World), (Instr.indexAt 41 (.pointer (some ⟨g, 0, none⟩)) (.int .i64 1)).run Tryd.prog W = .ok (.pointer (some ⟨g, 1, none⟩)) W := fun g W => bare.idx g 1 (by decide) W
  have HI2 : ∀ (g : Nat) (W : World), (Instr.indexAt 41 (.pointer (some ⟨g, 0, none⟩)) (.int .i64 2)).run Tryd.prog W = .ok (.pointer (some ⟨g, 2, none⟩)) W := fun g W => bare.idx g 2 (by decide) W
  have HI3 : ∀ (g : Nat) (W : World), (Instr.indexAt 41 (.pointer (some ⟨g, 0, none⟩)) (.int .i64 3)).run Tryd.prog W = .ok (.pointer (some ⟨g, 3, none⟩)) W := fun g W => bare.idx g 3 (by decide) W
  have HI4 : ∀ (g : Nat) (W : World), (Instr.indexAt 41 (.pointer (some ⟨g, 0, none⟩)) (.int .i64 4)).run Tryd.prog W = .ok (.pointer (some ⟨g, 4, none⟩)) W := fun g W => bare.idx g 4 (by decide) W
  have HI5 : ∀ (g : Nat) (W : World), (Instr.indexAt 41 (.pointer (some ⟨g, 0, none⟩)) (.int .i64 5)).run Tryd.prog W = .ok (.pointer (some ⟨g, 5, none⟩)) W := fun g W => bare.idx g 5 (by decide) W
  have HB := Aside0.mk (Below.refl w.heap.size w)
  have H : (chamberlainref03_Bare.l0 k a0 2 a0 a1_0 a1_1 a1_2 a1_3 a1_4 a1_5) = some (r1, r2, r3, r4, r5, r6, r7) := h
  clear h
  have H' := Aside0.mk H
  clear H
  go_enter Tryd.func17, Tryd.ntmps17
  go_wp2_with (first | ((with_reducible refine gate_dst (N := 3) rfl ?_); refine box_event ?hg (N := 3) ?hd (cs := #[.int .u32 a1_0, .int .u32 a1_1, .int .u32 a1_2, .int .u32 a1_3, .int .u32 a1_4, .int .u32 a1_5]) (t := 41) ?hr ?_; (case hd => rfl); (case hg => rfl); (case hr => first | (go_simp; done) | (go_simp; rfl)); intro gb239 hg w3 hbox hb; have n0_ := Aside0.mk (below_step (by repeat (first | (with_reducible first | exact HB.out | apply below_alloc | apply pw_below_drewN | apply below_drew1) | exact HB.out)) hb); have n1_ := Aside0.mk (hbox); have n2_ := Aside0.mk ((by rw [hg]; exact (below_size (by repeat (first | (with_reducible first | exact HB.out | apply below_alloc | apply pw_below_drewN | apply below_drew1) | exact HB.out))) : w.heap.size ≤ gb239)); have n3_ := Aside0.mk ((by rw [hg]; exact (below_size (by repeat (first | (with_reducible first | exact HB.out | apply below_alloc | apply pw_below_drewN | apply below_drew1) | exact HB.out))) : w.heap.size ≤ gb239)); clear HB; have HB := n0_; have BK239 := n1_; have GW239 := n2_; have GE239 := n3_; clear n0_ n1_ n2_ n3_; clear hb hbox hg) | ((with_reducible refine gate_dst (N := 4) rfl ?_); refine box_event ?hg (N := 4) ?hd (cs := #[.int .u32 0, .int .u32 0, .int .u32 0, .int .u32 0, .int .u32 0, .int .u32 0, .int .u32 0]) (t := 24) ?hr ?_; (case hd => rfl); (case hg => rfl); (case hr => first | (go_simp; done) | (go_simp; rfl)); intro gb240 hg w4 hbox hb; have n0_ := Aside0.mk (blk_below (g := gb239) (o := .cells #[.int .u32 a1_0, .int .u32 a1_1, .int .u32 a1_2, .int .u32 a1_3, .int .u32 a1_4, .int .u32 a1_5] 41 (0, 0)) (by (with_reducible repeat (first | refine blk_drewN ?_ _ | refine blk_drew ?_ | refine blk_alloc ?_ _)); exact BK239.out) hb); have n1_ := Aside0.mk (below_step (by repeat (first | (with_reducible first | exact HB.out | apply below_alloc | apply pw_below_drewN | apply below_drew1 | refine below_set ?_ GE239.out) | exact HB.out)) hb); have n2_ := Aside0.mk (hbox); have n3_ := Aside0.mk ((by rw [hg]; exact (below_size (by repeat (first | (with_reducible first | exact HB.out | apply below_alloc | apply pw_below_drewN | apply below_drew1 | refine below_set ?_ GE239.out) | exact HB.out))) : w.heap.size ≤ gb240)); have n4_ := Aside0.mk ((by rw [hg]; exact (below_size (by repeat (first | (with_reducible first | exact HB.out | apply below_alloc | apply pw_below_drewN | apply below_drew1 | refine below_set ?_ GE239.out) | exact HB.out))) : w.heap.size ≤ gb240)); have n5_ := Aside0.mk ((by rw [hg]; exact Nat.ne_of_lt (blk_lt (g := gb239) (o := .cells #[.int .u32 a1_0, .int .u32 a1_1, .int .u32 a1_2, .int .u32 a1_3, .int .u32 a1_4, .int .u32 a1_5] 41 (0, 0)) (by (with_reducible repeat (first | refine blk_drewN ?_ _ | refine blk_drew ?_ | refine blk_alloc ?_ _)); exact BK239.out)) : gb239 ≠ gb240)); have n6_ := Aside0.mk ((by rw [hg]; exact Nat.ne_of_gt (blk_lt (g := gb239) (o := .cells #[.int .u32 a1_0, .int .u32 a1_1, .int .u32 a1_2, .int .u32 a1_3, .int .u32 a1_4, .int .u32 a1_5] 41 (0, 0)) (by (with_reducible repeat (first | refine blk_drewN ?_ _ | refine blk_drew ?_ | refine blk_alloc ?_ _)); exact BK239.out)) : gb240 ≠ gb239)); clear BK239; clear HB; have BK239 := n0_; have HB := n1_; have BK240 := n2_; have GW240 := n3_; have GE240 := n4_; have NB239_240 := n5_; have NB240_239 := n6_; clear n0_ n1_ n2_ n3_ n4_ n5_ n6_; clear hb hbox hg; have hnb5 := NB239_240.out; have hnc5 := NB240_239.out; have hcz6_0 : w4.cell? ⟨gb239, 0, none⟩ = some (.int .u32 a1_0) := (blk_cell BK239.out 0).trans rfl; have hcz6_1 : w4.cell? ⟨gb239, 1, none⟩ = some (.int .u32 a1_1) := (blk_cell BK239.out 1).trans rfl; have hcz6_2 : w4.cell? ⟨gb239, 2, none⟩ = some (.int .u32 a1_2) := (blk_cell BK239.out 2).trans rfl; have hcz6_3 : w4.cell? ⟨gb239, 3, none⟩ = some (.int .u32 a1_3) := (blk_cell BK239.out 3).trans rfl; have hcz6_4 : w4.cell? ⟨gb239, 4, none⟩ = some (.int .u32 a1_4) := (blk_cell BK239.out 4).trans rfl; have hcz6_5 : w4.cell? ⟨gb239, 5, none⟩ = some (.int .u32 a1_5) := (blk_cell BK239.out 5).trans rfl; have hfz6_0 := blk_frozen BK239.out 0; have hfz6_1 := blk_frozen BK239.out 1; have hfz6_2 := blk_frozen BK239.out 2; have hfz6_3 := blk_frozen BK239.out 3; have hfz6_4 := blk_frozen BK239.out 4; have hfz6_5 := blk_frozen BK239.out 5) | ((with_reducible refine gate_dst (N := 5) rfl ?_); refine box_event ?hg (N := 5) ?hd (cs := #[.int .u32 0, .int .u32 0, .int .u32 0, .int .u32 0, .int .u32 0, .int .u32 0, .int .u32 0]) (t := 24) ?hr ?_; (case hd => rfl); (case hg => rfl); (case hr => first | (go_simp; done) | (go_simp; rfl)); intro gb241 hg w7 hbox hb; have n0_ := Aside0.mk (blk_below (g := gb239) (o := .cells #[.int .u32 a1_0, .int .u32 a1_1, .int .u32 a1_2, .int .u32 a1_3, .int .u32 a1_4, .int .u32 a1_5] 41 (0, 0)) (by (with_reducible repeat (first | refine blk_drewN ?_ _ | refine blk_drew ?_ | refine blk_alloc ?_ _)); exact BK239.out) hb); have n1_ := Aside0.mk (blk_below (g := gb240) (o := .cells #[.int .u32 0, .int .u32 0, .int .u32 0, .int .u32 0, .int .u32 0, .int .u32 0, .int .u32 0] 24 (0, 0)) (by (with_reducible repeat (first | refine blk_drewN ?_ _ | refine blk_drew ?_ | refine blk_alloc ?_ _)); exact BK240.out) hb); have n2_ := Aside0.mk (below_step (by repeat (first | (with_reducible first | exact HB.out | apply below_alloc | apply pw_below_drewN | apply below_drew1 | refine below_set ?_ GE239.out | refine below_set ?_ GE240.out) | exact HB.out)) hb); have n3_ := Aside0.mk (hbox); have n4_ := Aside0.mk ((by rw [hg]; exact (below_size (by repeat (first | (with_reducible first | exact HB.out | apply below_alloc | apply pw_below_drewN | apply below_drew1 | refine below_set ?_ GE239.out | refine below_set ?_ GE240.out) | exact HB.out))) : w.heap.size ≤ gb241)); have n5_ := Aside0.mk ((by rw [hg]; exact (below_size (by repeat (first | (with_reducible first | exact HB.out | apply below_alloc | apply pw_below_drewN | apply below_drew1 | refine below_set ?_ GE239.out | refine below_set ?_ GE240.out) | exact HB.out))) : w.heap.size ≤ gb241)); have n6_ := Aside0.mk ((by rw [hg]; exact Nat.ne_of_lt (blk_lt (g := gb239) (o := .cells #[.int .u32 a1_0, .int .u32 a1_1, .int .u32 a1_2, .int .u32 a1_3, .int .u32 a1_4, .int .u32 a1_5] 41 (0, 0)) (by (with_reducible repeat (first | refine blk_drewN ?_ _ | refine blk_drew ?_ | refine blk_alloc ?_ _)); exact BK239.out)) : gb239 ≠ gb241)); have n7_ := Aside0.mk ((by rw [hg]; exact Nat.ne_of_gt (blk_lt (g := gb239) (o := .cells #[.int .u32 a1_0, .int .u32 a1_1, .int .u32 a1_2, .int .u32 a1_3, .int .u32 a1_4, .int .u32 a1_5] 41 (0, 0)) (by (with_reducible repeat (first | refine blk_drewN ?_ _ | refine blk_drew ?_ | refine blk_alloc ?_ _)); exact BK239.out)) : gb241 ≠ gb239)); have n8_ := Aside0.mk ((by rw [hg]; exact Nat.ne_of_lt (blk_lt (g := gb240) (o := .cells #[.int .u32 0, .int .u32 0, .int .u32 0, .int .u32 0, .int .u32 0, .int .u32 0, .int .u32 0] 24 (0, 0)) (by (with_reducible repeat (first | refine blk_drewN ?_ _ | refine blk_drew ?_ | refine blk_alloc ?_ _)); exact BK240.out)) : gb240 ≠ gb241)); have n9_ := Aside0.mk ((by rw [hg]; exact Nat.ne_of_gt (blk_lt (g := gb240) (o := .cells #[.int .u32 0, .int .u32 0, .int .u32 0, .int .u32 0, .int .u32 0, .int .u32 0, .int .u32 0] 24 (0, 0)) (by (with_reducible repeat (first | refine blk_drewN ?_ _ | refine blk_drew ?_ | refine blk_alloc ?_ _)); exact BK240.out)) : gb241 ≠ gb240)); clear BK239; clear BK240; clear HB; have BK239 := n0_; have BK240 := n1_; have HB := n2_; have BK241 := n3_; have GW241 := n4_; have GE241 := n5_; have NB239_241 := n6_; have NB241_239 := n7_; have NB240_241 := n8_; have NB241_240 := n9_; clear n0_ n1_ n2_ n3_ n4_ n5_ n6_ n7_ n8_ n9_; clear hb hbox hg; have hnb8 := NB241_239.out; have hnc8 := NB239_241.out; have hnb9 := NB241_240.out; have hnc9 := NB240_241.out; have hcz10_0 : w7.cell? ⟨gb241, 0, none⟩ = some (.int .u32 0) := (blk_cell BK241.out 0).trans rfl; have hcz10_1 : w7.cell? ⟨gb241, 1, none⟩ = some (.int .u32 0) := (blk_cell BK241.out 1).trans rfl; have hcz10_2 : w7.cell? ⟨gb241, 2, none⟩ = some (.int .u32 0) := (blk_cell BK241.out 2).trans rfl; have hcz10_3 : w7.cell? ⟨gb241, 3, none⟩ = some (.int .u32 0) := (blk_cell BK241.out 3).trans rfl; have hcz10_4 : w7.cell? ⟨gb241, 4, none⟩ = some (.int .u32 0) := (blk_cell BK241.out 4).trans rfl; have hcz10_5 : w7.cell? ⟨gb241, 5, none⟩ = some (.int .u32 0) := (blk_cell BK241.out 5).trans rfl; have hcz10_6 : w7.cell? ⟨gb241, 6, none⟩ = some (.int .u32 0) := (blk_cell BK241.out 6).trans rfl; have hfz10_0 := blk_frozen BK241.out 0; have hfz10_1 := blk_frozen BK241.out 1; have hfz10_2 := blk_frozen BK241.out 2; have hfz10_3 := blk_frozen BK241.out 3; have hfz10_4 := blk_frozen BK241.out 4; have hfz10_5 := blk_frozen BK241.out 5; have hfz10_6 := blk_frozen BK241.out 6))
  go_loopg [6] k (fun kq v6 w' => ∃ (x6_1 : Int) (x242001_1 : Int) (x242002_1 : Int) (x242003_1 : Int) (x242004_1 : Int) (x242005_1 : Int) (x242006_1 : Int), v6 = .int .u32 x6_1 ∧ Aside0 (chamberlainref03_Bare.l0 kq a0 x6_1 a0 x242001_1 x242002_1 x242003_1 x242004_1 x242005_1 x242006_1 = some (r1, r2, r3, r4, r5, r6, r7)) ∧ Aside0 (kq ≤ k) ∧ Aside0 (w'.heap[gb239]? = some (.cells #[.int .u32 a1_0, .int .u32 a1_1, .int .u32 a1_2, .int .u32 a1_3, .int .u32 a1_4, .int .u32 a1_5] 41 (0, 0))) ∧ Aside0 (w'.heap[gb240]? = some (.cells #[.int .u32 0, .int .u32 0, .int .u32 0, .int .u32 0, .int .u32 0, .int .u32 0, .int .u32 0] 24 (0, 0))) ∧ Aside0 (w'.heap[gb241]? = some (.cells #[.int .u32 a0, .int .u32 x242001_1, .int .u32 x242002_1, .int .u32 x242003_1, .int .u32 x242004_1, .int .u32 x242005_1, .int .u32 x242006_1] 24 (0, 0))) ∧ Aside0 (Below w.heap.size w w'))
  case atStart => exact ⟨(2), (a1_0), (a1_1), (a1_2), (a1_3), (a1_4), (a1_5), (by first | rfl | (simp; done) | (simp [*]; done)), H', ⟨Nat.le_refl _⟩, ⟨by (with_reducible repeat (first | refine blk_drewN ?_ _ | refine blk_drew ?_ | refine blk_alloc ?_ _)); refine blk_far ?_ NB239_241.out _; (with_reducible repeat (first | refine blk_drewN ?_ _ | refine blk_drew ?_ | refine blk_alloc ?_ _)); refine blk_far ?_ NB239_241.out _; (with_reducible repeat (first | refine blk_drewN ?_ _ | refine blk_drew ?_ | refine blk_alloc ?_ _)); refine blk_far ?_ NB239_241.out _; (with_reducible repeat (first | refine blk_drewN ?_ _ | refine blk_drew ?_ | refine blk_alloc ?_ _)); refine blk_far ?_ NB239_241.out _; (with_reducible repeat (first | refine blk_drewN ?_ _ | refine blk_drew ?_ | refine blk_alloc ?_ _)); refine blk_far ?_ NB239_241.out _; (with_reducible repeat (first | refine blk_drewN ?_ _ | refine blk_drew ?_ | refine blk_alloc ?_ _)); refine blk_far ?_ NB239_241.out _; (with_reducible repeat (first | refine blk_drewN ?_ _ | refine blk_drew ?_ | refine blk_alloc ?_ _)); refine blk_far ?_ NB239_241.out _; (with_reducible repeat (first | refine blk_drewN ?_ _ | refine blk_drew ?_ | refine blk_alloc ?_ _)); exact BK239.out⟩, ⟨by (with_reducible repeat (first | refine blk_drewN ?_ _ | refine blk_drew ?_ | refine blk_alloc ?_ _)); refine blk_far ?_ NB240_241.out _; (with_reducible repeat (first | refine blk_drewN ?_ _ | refine blk_drew ?_ | refine blk_alloc ?_ _)); refine blk_far ?_ NB240_241.out _; (with_reducible repeat (first | refine blk_drewN ?_ _ | refine blk_drew ?_ | refine blk_alloc ?_ _)); refine blk_far ?_ NB240_241.out _; (with_reducible repeat (first | refine blk_drewN ?_ _ | refine blk_drew ?_ | refine blk_alloc ?_ _)); refine blk_far ?_ NB240_241.out _; (with_reducible repeat (first | refine blk_drewN ?_ _ | refine blk_drew ?_ | refine blk_alloc ?_ _)); refine blk_far ?_ NB240_241.out _; (with_reducible repeat (first | refine blk_drewN ?_ _ | refine blk_drew ?_ | refine blk_alloc ?_ _)); refine blk_far ?_ NB240_241.out _; (with_reducible repeat (first | refine blk_drewN ?_ _ | refine blk_drew ?_ | refine blk_alloc ?_ _)); refine blk_far ?_ NB240_241.out _; (with_reducible repeat (first | refine blk_drewN ?_ _ | refine blk_drew ?_ | refine blk_alloc ?_ _)); exact BK240.out⟩, ⟨by (with_reducible repeat (first | refine blk_drewN ?_ _ | refine blk_drew ?_ | refine blk_alloc ?_ _)); refine blk_put (cs := #[.int .u32 a0, .int .u32 a1_0, .int .u32 a1_1, .int .u32 a1_2, .int .u32 a1_3, .int .u32 a1_4, .int .u32 0]) ?_ 6 _ rfl; (with_reducible repeat (first | refine blk_drewN ?_ _ | refine blk_drew ?_ | refine blk_alloc ?_ _)); refine blk_put (cs := #[.int .u32 a0, .int .u32 a1_0, .int .u32 a1_1, .int .u32 a1_2, .int .u32 a1_3, .int .u32 0, .int .u32 0]) ?_ 5 _ rfl; (with_reducible repeat (first | refine blk_drewN ?_ _ | refine blk_drew ?_ | refine blk_alloc ?_ _)); refine blk_put (cs := #[.int .u32 a0, .int .u32 a1_0, .int .u32 a1_1, .int .u32 a1_2, .int .u32 0, .int .u32 0, .int .u32 0]) ?_ 4 _ rfl; (with_reducible repeat (first | refine blk_drewN ?_ _ | refine blk_drew ?_ | refine blk_alloc ?_ _)); refine blk_put (cs := #[.int .u32 a0, .int .u32 a1_0, .int .u32 a1_1, .int .u32 0, .int .u32 0, .int .u32 0, .int .u32 0]) ?_ 3 _ rfl; (with_reducible repeat (first | refine blk_drewN ?_ _ | refine blk_drew ?_ | refine blk_alloc ?_ _)); refine blk_put (cs := #[.int .u32 a0, .int .u32 a1_0, .int .u32 0, .int .u32 0, .int .u32 0, .int .u32 0, .int .u32 0]) ?_ 2 _ rfl; (with_reducible repeat (first | refine blk_drewN ?_ _ | refine blk_drew ?_ | refine blk_alloc ?_ _)); refine blk_put (cs := #[.int .u32 a0, .int .u32 0, .int .u32 0, .int .u32 0, .int .u32 0, .int .u32 0, .int .u32 0]) ?_ 1 _ rfl; (with_reducible repeat (first | refine blk_drewN ?_ _ | refine blk_drew ?_ | refine blk_alloc ?_ _)); refine blk_put (cs := #[.int .u32 0, .int .u32 0, .int .u32 0, .int .u32 0, .int .u32 0, .int .u32 0, .int .u32 0]) ?_ 0 _ rfl; (with_reducible repeat (first | refine blk_drewN ?_ _ | refine blk_drew ?_ | refine blk_alloc ?_ _)); exact BK241.out⟩, ⟨by repeat (first | (with_reducible first | exact HB.out | apply below_alloc | apply pw_below_drewN | apply below_drew1 | refine below_set ?_ GE239.out | refine below_set ?_ GE240.out | refine below_set ?_ GE241.out) | exact HB.out)⟩⟩
  case round =>
    clear H'
    try clear c1
    try clear p2
    try clear c5
    try clear c8
    try clear c9
    try clear hcz10_0
    try clear hcz10_1
    try clear hcz10_2
    try clear hcz10_3
    try clear hcz10_4
    try clear hcz10_5
    try clear hcz10_6
    try clear hcz6_0
    try clear hcz6_1
    try clear hcz6_2
    try clear hcz6_3
    try clear hcz6_4
    try clear hcz6_5
    try clear hfz10_0
    try clear hfz10_1
    try clear hfz10_2
    try clear hfz10_3
    try clear hfz10_4
    try clear hfz10_5
    try clear hfz10_6
    try clear hfz6_0
    try clear hfz6_1
    try clear hfz6_2
    try clear hfz6_3
    try clear hfz6_4
    try clear hfz6_5
    obtain ⟨x6_1, x242001_1, x242002_1, x242003_1, x242004_1, x242005_1, x242006_1, rfl, HA, HK1, BK239, BK240, BK241, HB⟩ := hrel
    cases gk with
    | zero => exact absurd HA.out (by simp [chamberlainref03_Bare.l0])
    | succ k1 =>
      have H := HA.out
      clear HA
      simp only [chamberlainref03_Bare.l0] at H
      by_cases c11 : x6_1 ≤ 7
      · rw [if_pos c11] at H
        have c11b0 : decide (x6_1 ≤ 7) = true := decide_eq_true c11
        clear c11
        replace H := Option.bind_eq_some_iff.mp H
        obtain ⟨t242, A120, H⟩ := H
        replace H : (if t242 = true then (chamberlainref03_Bare.l0 k1 a0 ((x6_1 + 1) % 4294967296) a0 x242001_1 x242002_1 x242003_1 x242004_1 x242005_1 x242006_1) else (if x6_1 = 2 then (chamberlainref03_Bare.l0 k1 a0 ((x6_1 + 1) % 4294967296) a0 0 x242002_1 x242003_1 x242004_1 x242005_1 x242006_1) else (if x6_1 = 3 then (chamberlainref03_Bare.l0 k1 a0 ((x6_1 + 1) % 4294967296) a0 x242001_1 0 x242003_1 x242004_1 x242005_1 x242006_1) else (if x6_1 = 4 then (chamberlainref03_Bare.l0 k1 a0 ((x6_1 + 1) % 4294967296) a0 x242001_1 x242002_1 0 x242004_1 x242005_1 x242006_1) else (if x6_1 = 5 then (chamberlainref03_Bare.l0 k1 a0 ((x6_1 + 1) % 4294967296) a0 x242001_1 x242002_1 x242003_1 0 x242005_1 x242006_1) else (if x6_1 = 6 then (chamberlainref03_Bare.l0 k1 a0 ((x6_1 + 1) % 4294967296) a0 x242001_1 x242002_1 x242003_1 x242004_1 0 x242006_1) else (if x6_1 = 7 then (chamberlainref03_Bare.l0 k1 a0 ((x6_1 + 1) % 4294967296) a0 x242001_1 x242002_1 x242003_1 x242004_1 x242005_1 0) else (chamberlainref03_Bare.l0 k1 a0 ((x6_1 + 1) % 4294967296) a0 x242001_1 x242002_1 x242003_1 x242004_1 x242005_1 x242006_1)))))))) = some (r1, r2, r3, r4, r5, r6, r7) := H
        have A12 := Aside0.mk A120
        clear A120
        by_cases c13 : t242 = true
        · subst c13
          have H1 : (chamberlainref03_Bare.l0 k1 a0 ((x6_1 + 1) % 4294967296) a0 x242001_1 x242002_1 x242003_1 x242004_1 x242005_1 x242006_1) = some (r1, r2, r3, r4, r5, r6, r7) := by rw [if_pos rfl] at H; exact H
          clear H
          have H := H1
          clear H1
          have H' := Aside0.mk H
          clear H
          go_wp2_with (first | ((with_reducible refine gate_callee (f := 22) rfl ?_); refine goesL_ (some 27) rfl rfl Tryd.func22 (by kernel_rfl) rfl #[.int .u32 a0, .int .u32 x6_1] rfl (by (try simp only [List.map_toArray, List.map_cons, List.map_nil]); first | done | rfl | (simp only [List.length_drop, List.length_take]; rfl)) ?_; (with_reducible refine (chamberlainref03_Has.calls k1 a0 x6_1 true _ A12.out).mono ?_); rintro e w' ⟨rfl, ⟨nd, rfl⟩⟩; refine ⟨_, rfl, ?_⟩))
          go_roundg k1
          case measure => have := HK1.out; omega
          case rel => exact ⟨((x6_1 + 1) % 4294967296), (x242001_1), (x242002_1), (x242003_1), (x242004_1), (x242005_1), (x242006_1), (by first | rfl | (simp; done) | (simp [*]; done)), H', ⟨by have := HK1.out; omega⟩, ⟨by (with_reducible repeat (first | refine blk_drewN ?_ _ | refine blk_drew ?_ | refine blk_alloc ?_ _)); exact BK239.out⟩, ⟨by (with_reducible repeat (first | refine blk_drewN ?_ _ | refine blk_drew ?_ | refine blk_alloc ?_ _)); exact BK240.out⟩, ⟨by (with_reducible repeat (first | refine blk_drewN ?_ _ | refine blk_drew ?_ | refine blk_alloc ?_ _)); exact BK241.out⟩, ⟨by repeat (first | (with_reducible first | exact HB.out | apply below_alloc | apply pw_below_drewN | apply below_drew1 | refine below_set ?_ GE239.out | refine below_set ?_ GE240.out | refine below_set ?_ GE241.out) | exact HB.out)⟩⟩
        · replace c13 := Bool.eq_false_iff.mpr c13
          subst c13
          have H1 : (if x6_1 = 2 then (chamberlainref03_Bare.l0 k1 a0 ((x6_1 + 1) % 4294967296) a0 0 x242002_1 x242003_1 x242004_1 x242005_1 x242006_1) else (if x6_1 = 3 then (chamberlainref03_Bare.l0 k1 a0 ((x6_1 + 1) % 4294967296) a0 x242001_1 0 x242003_1 x242004_1 x242005_1 x242006_1) else (if x6_1 = 4 then (chamberlainref03_Bare.l0 k1 a0 ((x6_1 + 1) % 4294967296) a0 x242001_1 x242002_1 0 x242004_1 x242005_1 x242006_1) else (if x6_1 = 5 then (chamberlainref03_Bare.l0 k1 a0 ((x6_1 + 1) % 4294967296) a0 x242001_1 x242002_1 x242003_1 0 x242005_1 x242006_1) else (if x6_1 = 6 then (chamberlainref03_Bare.l0 k1 a0 ((x6_1 + 1) % 4294967296) a0 x242001_1 x242002_1 x242003_1 x242004_1 0 x242006_1) else (if x6_1 = 7 then (chamberlainref03_Bare.l0 k1 a0 ((x6_1 + 1) % 4294967296) a0 x242001_1 x242002_1 x242003_1 x242004_1 x242005_1 0) else (chamberlainref03_Bare.l0 k1 a0 ((x6_1 + 1) % 4294967296) a0 x242001_1 x242002_1 x242003_1 x242004_1 x242005_1 x242006_1))))))) = some (r1, r2, r3, r4, r5, r6, r7) := by rw [if_neg (show ¬ (false = true) by decide)] at H; exact H
          clear H
          have H := H1
          clear H1
          by_cases c14 : x6_1 = 2
          · rw [if_pos c14] at H
            have c14b0 : (x6_1 == 2) = true := beq_iff_eq.mpr c14
            have c14b1 : (x6_1 != 2) = false := bne_eq_false_iff_eq.mpr c14
            clear c14
            have H' := Aside0.mk H
            clear H
            go_wp2_with (first | ((with_reducible refine gate_callee (f := 22) rfl ?_); refine goesL_ (some 27) rfl rfl Tryd.func22 (by kernel_rfl) rfl #[.int .u32 a0, .int .u32 x6_1] rfl (by (try simp only [List.map_toArray, List.map_cons, List.map_nil]); first | done | rfl | (simp only [List.length_drop, List.length_take]; rfl)) ?_; (with_reducible refine (chamberlainref03_Has.calls k1 a0 x6_1 false _ A12.out).mono ?_); rintro e w' ⟨rfl, ⟨nd, rfl⟩⟩; refine ⟨_, rfl, ?_⟩; (try (rw [drewN_self wr]; generalize hq_ : World.drewN wr _ = wr; have n0_ : Aside0 (wr.heap[gb239]? = some (.cells #[.int .u32 a1_0, .int .u32 a1_1, .int .u32 a1_2, .int .u32 a1_3, .int .u32 a1_4, .int .u32 a1_5] 41 (0, 0))) := ⟨by rw [← hq_]; exact (by (with_reducible repeat (first | refine blk_drewN ?_ _ | refine blk_drew ?_ | refine blk_alloc ?_ _)); exact BK239.out)⟩; have n1_ : Aside0 (wr.heap[gb240]? = some (.cells #[.int .u32 0, .int .u32 0, .int .u32 0, .int .u32 0, .int .u32 0, .int .u32 0, .int .u32 0] 24 (0, 0))) := ⟨by rw [← hq_]; exact (by (with_reducible repeat (first | refine blk_drewN ?_ _ | refine blk_drew ?_ | refine blk_alloc ?_ _)); exact BK240.out)⟩; have n2_ : Aside0 (wr.heap[gb241]? = some (.cells #[.int .u32 a0, .int .u32 x242001_1, .int .u32 x242002_1, .int .u32 x242003_1, .int .u32 x242004_1, .int .u32 x242005_1, .int .u32 x242006_1] 24 (0, 0))) := ⟨by rw [← hq_]; exact (by (with_reducible repeat (first | refine blk_drewN ?_ _ | refine blk_drew ?_ | refine blk_alloc ?_ _)); exact BK241.out)⟩; have n3_ : Aside0 (Below w.heap.size w wr) := ⟨by rw [← hq_]; exact (by repeat (first | (with_reducible first | exact HB.out | apply below_alloc | apply pw_below_drewN | apply below_drew1 | refine below_set ?_ GE239.out | refine below_set ?_ GE240.out | refine below_set ?_ GE241.out) | exact HB.out))⟩; clear BK239 BK240 BK241 HB hq_; have BK239 := n0_; have BK240 := n1_; have BK241 := n2_; have HB := n3_; clear n0_ n1_ n2_ n3_)); have hnb15 := NB241_239.out; have hnc15 := NB239_241.out; have hnb16 := NB241_240.out; have hnc16 := NB240_241.out; have hcz17_0 : wr.cell? ⟨gb241, 0, none⟩ = some (.int .u32 a0) := (blk_cell BK241.out 0).trans rfl; have hcz17_1 : wr.cell? ⟨gb241, 1, none⟩ = some (.int .u32 x242001_1) := (blk_cell BK241.out 1).trans rfl; have hcz17_2 : wr.cell? ⟨gb241, 2, none⟩ = some (.int .u32 x242002_1) := (blk_cell BK241.out 2).trans rfl; have hcz17_3 : wr.cell? ⟨gb241, 3, none⟩ = some (.int .u32 x242003_1) := (blk_cell BK241.out 3).trans rfl; have hcz17_4 : wr.cell? ⟨gb241, 4, none⟩ = some (.int .u32 x242004_1) := (blk_cell BK241.out 4).trans rfl; have hcz17_5 : wr.cell? ⟨gb241, 5, none⟩ = some (.int .u32 x242005_1) := (blk_cell BK241.out 5).trans rfl; have hcz17_6 : wr.cell? ⟨gb241, 6, none⟩ = some (.int .u32 x242006_1) := (blk_cell BK241.out 6).trans rfl; have hfz17_0 := blk_frozen BK241.out 0; have hfz17_1 := blk_frozen BK241.out 1; have hfz17_2 := blk_frozen BK241.out 2; have hfz17_3 := blk_frozen BK241.out 3; have hfz17_4 := blk_frozen BK241.out 4; have hfz17_5 := blk_frozen BK241.out 5; have hfz17_6 := blk_frozen BK241.out 6))
            go_roundg k1
            case measure => have := HK1.out; omega
            case rel => exact ⟨((x6_1 + 1) % 4294967296), (0), (x242002_1), (x242003_1), (x242004_1), (x242005_1), (x242006_1), (by first | rfl | (simp; done) | (simp [*]; done)), H', ⟨by have := HK1.out; omega⟩, ⟨by (with_reducible repeat (first | refine blk_drewN ?_ _ | refine blk_drew ?_ | refine blk_alloc ?_ _)); refine blk_far ?_ NB239_241.out _; (with_reducible repeat (first | refine blk_drewN ?_ _ | refine blk_drew ?_ | refine blk_alloc ?_ _)); exact BK239.out⟩, ⟨by (with_reducible repeat (first | refine blk_drewN ?_ _ | refine blk_drew ?_ | refine blk_alloc ?_ _)); refine blk_far ?_ NB240_241.out _; (with_reducible repeat (first | refine blk_drewN ?_ _ | refine blk_drew ?_ | refine blk_alloc ?_ _)); exact BK240.out⟩, ⟨by (with_reducible repeat (first | refine blk_drewN ?_ _ | refine blk_drew ?_ | refine blk_alloc ?_ _)); refine blk_put (cs := #[.int .u32 a0, .int .u32 x242001_1, .int .u32 x242002_1, .int .u32 x242003_1, .int .u32 x242004_1, .int .u32 x242005_1, .int .u32 x242006_1]) ?_ 1 _ rfl; (with_reducible repeat (first | refine blk_drewN ?_ _ | refine blk_drew ?_ | refine blk_alloc ?_ _)); exact BK241.out⟩, ⟨by repeat (first | (with_reducible first | exact HB.out | apply below_alloc | apply pw_below_drewN | apply below_drew1 | refine below_set ?_ GE239.out | refine below_set ?_ GE240.out | refine below_set ?_ GE241.out) | exact HB.out)⟩⟩
          · rw [if_neg c14] at H
            have c14b0 : (x6_1 == 2) = false := beq_eq_false_iff_ne.mpr c14
            have c14b1 : (x6_1 != 2) = true := bne_iff_ne.mpr c14
            by_cases c18 : x6_1 = 3
            · rw [if_pos c18] at H
              have c18b0 : (x6_1 == 3) = true := beq_iff_eq.mpr c18
              have c18b1 : (x6_1 != 3) = false := bne_eq_false_iff_eq.mpr c18
              clear c18
              have H' := Aside0.mk H
              clear H
              go_wp2_with (first | ((with_reducible refine gate_callee (f := 22) rfl ?_); refine goesL_ (some 27) rfl rfl Tryd.func22 (by kernel_rfl) rfl #[.int .u32 a0, .int .u32 x6_1] rfl (by (try simp only [List.map_toArray, List.map_cons, List.map_nil]); first | done | rfl | (simp only [List.length_drop, List.length_take]; rfl)) ?_; (with_reducible refine (chamberlainref03_Has.calls k1 a0 x6_1 false _ A12.out).mono ?_); rintro e w' ⟨rfl, ⟨nd, rfl⟩⟩; refine ⟨_, rfl, ?_⟩; (try (rw [drewN_self wr]; generalize hq_ : World.drewN wr _ = wr; have n0_ : Aside0 (wr.heap[gb239]? = some (.cells #[.int .u32 a1_0, .int .u32 a1_1, .int .u32 a1_2, .int .u32 a1_3, .int .u32 a1_4, .int .u32 a1_5] 41 (0, 0))) := ⟨by rw [← hq_]; exact (by (with_reducible repeat (first | refine blk_drewN ?_ _ | refine blk_drew ?_ | refine blk_alloc ?_ _)); exact BK239.out)⟩; have n1_ : Aside0 (wr.heap[gb240]? = some (.cells #[.int .u32 0, .int .u32 0, .int .u32 0, .int .u32 0, .int .u32 0, .int .u32 0, .int .u32 0] 24 (0, 0))) := ⟨by rw [← hq_]; exact (by (with_reducible repeat (first | refine blk_drewN ?_ _ | refine blk_drew ?_ | refine blk_alloc ?_ _)); exact BK240.out)⟩; have n2_ : Aside0 (wr.heap[gb241]? = some (.cells #[.int .u32 a0, .int .u32 x242001_1, .int .u32 x242002_1, .int .u32 x242003_1, .int .u32 x242004_1, .int .u32 x242005_1, .int .u32 x242006_1] 24 (0, 0))) := ⟨by rw [← hq_]; exact (by (with_reducible repeat (first | refine blk_drewN ?_ _ | refine blk_drew ?_ | refine blk_alloc ?_ _)); exact BK241.out)⟩; have n3_ : Aside0 (Below w.heap.size w wr) := ⟨by rw [← hq_]; exact (by repeat (first | (with_reducible first | exact HB.out | apply below_alloc | apply pw_below_drewN | apply below_drew1 | refine below_set ?_ GE239.out | refine below_set ?_ GE240.out | refine below_set ?_ GE241.out) | exact HB.out))⟩; clear BK239 BK240 BK241 HB hq_; have BK239 := n0_; have BK240 := n1_; have BK241 := n2_; have HB := n3_; clear n0_ n1_ n2_ n3_)); have hnb19 := NB241_239.out; have hnc19 := NB239_241.out; have hnb20 := NB241_240.out; have hnc20 := NB240_241.out; have hcz21_0 : wr.cell? ⟨gb241, 0, none⟩ = some (.int .u32 a0) := (blk_cell BK241.out 0).trans rfl; have hcz21_1 : wr.cell? ⟨gb241, 1, none⟩ = some (.int .u32 x242001_1) := (blk_cell BK241.out 1).trans rfl; have hcz21_2 : wr.cell? ⟨gb241, 2, none⟩ = some (.int .u32 x242002_1) := (blk_cell BK241.out 2).trans rfl; have hcz21_3 : wr.cell? ⟨gb241, 3, none⟩ = some (.int .u32 x242003_1) := (blk_cell BK241.out 3).trans rfl; have hcz21_4 : wr.cell? ⟨gb241, 4, none⟩ = some (.int .u32 x242004_1) := (blk_cell BK241.out 4).trans rfl; have hcz21_5 : wr.cell? ⟨gb241, 5, none⟩ = some (.int .u32 x242005_1) := (blk_cell BK241.out 5).trans rfl; have hcz21_6 : wr.cell? ⟨gb241, 6, none⟩ = some (.int .u32 x242006_1) := (blk_cell BK241.out 6).trans rfl; have hfz21_0 := blk_frozen BK241.out 0; have hfz21_1 := blk_frozen BK241.out 1; have hfz21_2 := blk_frozen BK241.out 2; have hfz21_3 := blk_frozen BK241.out 3; have hfz21_4 := blk_frozen BK241.out 4; have hfz21_5 := blk_frozen BK241.out 5; have hfz21_6 := blk_frozen BK241.out 6))
              go_roundg k1
              case measure => have := HK1.out; omega
              case rel => exact ⟨((x6_1 + 1) % 4294967296), (x242001_1), (0), (x242003_1), (x242004_1), (x242005_1), (x242006_1), (by first | rfl | (simp; done) | (simp [*]; done)), H', ⟨by have := HK1.out; omega⟩, ⟨by (with_reducible repeat (first | refine blk_drewN ?_ _ | refine blk_drew ?_ | refine blk_alloc ?_ _)); refine blk_far ?_ NB239_241.out _; (with_reducible repeat (first | refine blk_drewN ?_ _ | refine blk_drew ?_ | refine blk_alloc ?_ _)); exact BK239.out⟩, ⟨by (with_reducible repeat (first | refine blk_drewN ?_ _ | refine blk_drew ?_ | refine blk_alloc ?_ _)); refine blk_far ?_ NB240_241.out _; (with_reducible repeat (first | refine blk_drewN ?_ _ | refine blk_drew ?_ | refine blk_alloc ?_ _)); exact BK240.out⟩, ⟨by (with_reducible repeat (first | refine blk_drewN ?_ _ | refine blk_drew ?_ | refine blk_alloc ?_ _)); refine blk_put (cs := #[.int .u32 a0, .int .u32 x242001_1, .int .u32 x242002_1, .int .u32 x242003_1, .int .u32 x242004_1, .int .u32 x242005_1, .int .u32 x242006_1]) ?_ 2 _ rfl; (with_reducible repeat (first | refine blk_drewN ?_ _ | refine blk_drew ?_ | refine blk_alloc ?_ _)); exact BK241.out⟩, ⟨by repeat (first | (with_reducible first | exact HB.out | apply below_alloc | apply pw_below_drewN | apply below_drew1 | refine below_set ?_ GE239.out | refine below_set ?_ GE240.out | refine below_set ?_ GE241.out) | exact HB.out)⟩⟩
            · rw [if_neg c18] at H
              have c18b0 : (x6_1 == 3) = false := beq_eq_false_iff_ne.mpr c18
              have c18b1 : (x6_1 != 3) = true := bne_iff_ne.mpr c18
              by_cases c22 : x6_1 = 4
              · rw [if_pos c22] at H
                have c22b0 : (x6_1 == 4) = true := beq_iff_eq.mpr c22
                have c22b1 : (x6_1 != 4) = false := bne_eq_false_iff_eq.mpr c22
                clear c22
                have H' := Aside0.mk H
                clear H
                go_wp2_with (first | ((with_reducible refine gate_callee (f := 22) rfl ?_); refine goesL_ (some 27) rfl rfl Tryd.func22 (by kernel_rfl) rfl #[.int .u32 a0, .int .u32 x6_1] rfl (by (try simp only [List.map_toArray, List.map_cons, List.map_nil]); first | done | rfl | (simp only [List.length_drop, List.length_take]; rfl)) ?_; (with_reducible refine (chamberlainref03_Has.calls k1 a0 x6_1 false _ A12.out).mono ?_); rintro e w' ⟨rfl, ⟨nd, rfl⟩⟩; refine ⟨_, rfl, ?_⟩; (try (rw [drewN_self wr]; generalize hq_ : World.drewN wr _ = wr; have n0_ : Aside0 (wr.heap[gb239]? = some (.cells #[.int .u32 a1_0, .int .u32 a1_1, .int .u32 a1_2, .int .u32 a1_3, .int .u32 a1_4, .int .u32 a1_5] 41 (0, 0))) := ⟨by rw [← hq_]; exact (by (with_reducible repeat (first | refine blk_drewN ?_ _ | refine blk_drew ?_ | refine blk_alloc ?_ _)); exact BK239.out)⟩; have n1_ : Aside0 (wr.heap[gb240]? = some (.cells #[.int .u32 0, .int .u32 0, .int .u32 0, .int .u32 0, .int .u32 0, .int .u32 0, .int .u32 0] 24 (0, 0))) := ⟨by rw [← hq_]; exact (by (with_reducible repeat (first | refine blk_drewN ?_ _ | refine blk_drew ?_ | refine blk_alloc ?_ _)); exact BK240.out)⟩; have n2_ : Aside0 (wr.heap[gb241]? = some (.cells #[.int .u32 a0, .int .u32 x242001_1, .int .u32 x242002_1, .int .u32 x242003_1, .int .u32 x242004_1, .int .u32 x242005_1, .int .u32 x242006_1] 24 (0, 0))) := ⟨by rw [← hq_]; exact (by (with_reducible repeat (first | refine blk_drewN ?_ _ | refine blk_drew ?_ | refine blk_alloc ?_ _)); exact BK241.out)⟩; have n3_ : Aside0 (Below w.heap.size w wr) := ⟨by rw [← hq_]; exact (by repeat (first | (with_reducible first | exact HB.out | apply below_alloc | apply pw_below_drewN | apply below_drew1 | refine below_set ?_ GE239.out | refine below_set ?_ GE240.out | refine below_set ?_ GE241.out) | exact HB.out))⟩; clear BK239 BK240 BK241 HB hq_; have BK239 := n0_; have BK240 := n1_; have BK241 := n2_; have HB := n3_; clear n0_ n1_ n2_ n3_)); have hnb23 := NB241_239.out; have hnc23 := NB239_241.out; have hnb24 := NB241_240.out; have hnc24 := NB240_241.out; have hcz25_0 : wr.cell? ⟨gb241, 0, none⟩ = some (.int .u32 a0) := (blk_cell BK241.out 0).trans rfl; have hcz25_1 : wr.cell? ⟨gb241, 1, none⟩ = some (.int .u32 x242001_1) := (blk_cell BK241.out 1).trans rfl; have hcz25_2 : wr.cell? ⟨gb241, 2, none⟩ = some (.int .u32 x242002_1) := (blk_cell BK241.out 2).trans rfl; have hcz25_3 : wr.cell? ⟨gb241, 3, none⟩ = some (.int .u32 x242003_1) := (blk_cell BK241.out 3).trans rfl; have hcz25_4 : wr.cell? ⟨gb241, 4, none⟩ = some (.int .u32 x242004_1) := (blk_cell BK241.out 4).trans rfl; have hcz25_5 : wr.cell? ⟨gb241, 5, none⟩ = some (.int .u32 x242005_1) := (blk_cell BK241.out 5).trans rfl; have hcz25_6 : wr.cell? ⟨gb241, 6, none⟩ = some (.int .u32 x242006_1) := (blk_cell BK241.out 6).trans rfl; have hfz25_0 := blk_frozen BK241.out 0; have hfz25_1 := blk_frozen BK241.out 1; have hfz25_2 := blk_frozen BK241.out 2; have hfz25_3 := blk_frozen BK241.out 3; have hfz25_4 := blk_frozen BK241.out 4; have hfz25_5 := blk_frozen BK241.out 5; have hfz25_6 := blk_frozen BK241.out 6))
                go_roundg k1
                case measure => have := HK1.out; omega
                case rel => exact ⟨((x6_1 + 1) % 4294967296), (x242001_1), (x242002_1), (0), (x242004_1), (x242005_1), (x242006_1), (by first | rfl | (simp; done) | (simp [*]; done)), H', ⟨by have := HK1.out; omega⟩, ⟨by (with_reducible repeat (first | refine blk_drewN ?_ _ | refine blk_drew ?_ | refine blk_alloc ?_ _)); refine blk_far ?_ NB239_241.out _; (with_reducible repeat (first | refine blk_drewN ?_ _ | refine blk_drew ?_ | refine blk_alloc ?_ _)); exact BK239.out⟩, ⟨by (with_reducible repeat (first | refine blk_drewN ?_ _ | refine blk_drew ?_ | refine blk_alloc ?_ _)); refine blk_far ?_ NB240_241.out _; (with_reducible repeat (first | refine blk_drewN ?_ _ | refine blk_drew ?_ | refine blk_alloc ?_ _)); exact BK240.out⟩, ⟨by (with_reducible repeat (first | refine blk_drewN ?_ _ | refine blk_drew ?_ | refine blk_alloc ?_ _)); refine blk_put (cs := #[.int .u32 a0, .int .u32 x242001_1, .int .u32 x242002_1, .int .u32 x242003_1, .int .u32 x242004_1, .int .u32 x242005_1, .int .u32 x242006_1]) ?_ 3 _ rfl; (with_reducible repeat (first | refine blk_drewN ?_ _ | refine blk_drew ?_ | refine blk_alloc ?_ _)); exact BK241.out⟩, ⟨by repeat (first | (with_reducible first | exact HB.out | apply below_alloc | apply pw_below_drewN | apply below_drew1 | refine below_set ?_ GE239.out | refine below_set ?_ GE240.out | refine below_set ?_ GE241.out) | exact HB.out)⟩⟩
              · rw [if_neg c22] at H
                have c22b0 : (x6_1 == 4) = false := beq_eq_false_iff_ne.mpr c22
                have c22b1 : (x6_1 != 4) = true := bne_iff_ne.mpr c22
                by_cases c26 : x6_1 = 5
                · rw [if_pos c26] at H
                  have c26b0 : (x6_1 == 5) = true := beq_iff_eq.mpr c26
                  have c26b1 : (x6_1 != 5) = false := bne_eq_false_iff_eq.mpr c26
                  clear c26
                  have H' := Aside0.mk H
                  clear H
                  go_wp2_with (first | ((with_reducible refine gate_callee (f := 22) rfl ?_); refine goesL_ (some 27) rfl rfl Tryd.func22 (by kernel_rfl) rfl #[.int .u32 a0, .int .u32 x6_1] rfl (by (try simp only [List.map_toArray, List.map_cons, List.map_nil]); first | done | rfl | (simp only [List.length_drop, List.length_take]; rfl)) ?_; (with_reducible refine (chamberlainref03_Has.calls k1 a0 x6_1 false _ A12.out).mono ?_); rintro e w' ⟨rfl, ⟨nd, rfl⟩⟩; refine ⟨_, rfl, ?_⟩; (try (rw [drewN_self wr]; generalize hq_ : World.drewN wr _ = wr; have n0_ : Aside0 (wr.heap[gb239]? = some (.cells #[.int .u32 a1_0, .int .u32 a1_1, .int .u32 a1_2, .int .u32 a1_3, .int .u32 a1_4, .int .u32 a1_5] 41 (0, 0))) := ⟨by rw [← hq_]; exact (by (with_reducible repeat (first | refine blk_drewN ?_ _ | refine blk_drew ?_ | refine blk_alloc ?_ _)); exact BK239.out)⟩; have n1_ : Aside0 (wr.heap[gb240]? = some (.cells #[.int .u32 0, .int .u32 0, .int .u32 0, .int .u32 0, .int .u32 0, .int .u32 0, .int .u32 0] 24 (0, 0))) := ⟨by rw [← hq_]; exact (by (with_reducible repeat (first | refine blk_drewN ?_ _ | refine blk_drew ?_ | refine blk_alloc ?_ _)); exact BK240.out)⟩; have n2_ : Aside0 (wr.heap[gb241]? = some (.cells #[.int .u32 a0, .int .u32 x242001_1, .int .u32 x242002_1, .int .u32 x242003_1, .int .u32 x242004_1, .int .u32 x242005_1, .int .u32 x242006_1] 24 (0, 0))) := ⟨by rw [← hq_]; exact (by (with_reducible repeat (first | refine blk_drewN ?_ _ | refine blk_drew ?_ | refine blk_alloc ?_ _)); exact BK241.out)⟩; have n3_ : Aside0 (Below w.heap.size w wr) := ⟨by rw [← hq_]; exact (by repeat (first | (with_reducible first | exact HB.out | apply below_alloc | apply pw_below_drewN | apply below_drew1 | refine below_set ?_ GE239.out | refine below_set ?_ GE240.out | refine below_set ?_ GE241.out) | exact HB.out))⟩; clear BK239 BK240 BK241 HB hq_; have BK239 := n0_; have BK240 := n1_; have BK241 := n2_; have HB := n3_; clear n0_ n1_ n2_ n3_)); have hnb27 := NB241_239.out; have hnc27 := NB239_241.out; have hnb28 := NB241_240.out; have hnc28 := NB240_241.out; have hcz29_0 : wr.cell? ⟨gb241, 0, none⟩ = some (.int .u32 a0) := (blk_cell BK241.out 0).trans rfl; have hcz29_1 : wr.cell? ⟨gb241, 1, none⟩ = some (.int .u32 x242001_1) := (blk_cell BK241.out 1).trans rfl; have hcz29_2 : wr.cell? ⟨gb241, 2, none⟩ = some (.int .u32 x242002_1) := (blk_cell BK241.out 2).trans rfl; have hcz29_3 : wr.cell? ⟨gb241, 3, none⟩ = some (.int .u32 x242003_1) := (blk_cell BK241.out 3).trans rfl; have hcz29_4 : wr.cell? ⟨gb241, 4, none⟩ = some (.int .u32 x242004_1) := (blk_cell BK241.out 4).trans rfl; have hcz29_5 : wr.cell? ⟨gb241, 5, none⟩ = some (.int .u32 x242005_1) := (blk_cell BK241.out 5).trans rfl; have hcz29_6 : wr.cell? ⟨gb241, 6, none⟩ = some (.int .u32 x242006_1) := (blk_cell BK241.out 6).trans rfl; have hfz29_0 := blk_frozen BK241.out 0; have hfz29_1 := blk_frozen BK241.out 1; have hfz29_2 := blk_frozen BK241.out 2; have hfz29_3 := blk_frozen BK241.out 3; have hfz29_4 := blk_frozen BK241.out 4; have hfz29_5 := blk_frozen BK241.out 5; have hfz29_6 := blk_frozen BK241.out 6))
                  go_roundg k1
                  case measure => have := HK1.out; omega
                  case rel => exact ⟨((x6_1 + 1) % 4294967296), (x242001_1), (x242002_1), (x242003_1), (0), (x242005_1), (x242006_1), (by first | rfl | (simp; done) | (simp [*]; done)), H', ⟨by have := HK1.out; omega⟩, ⟨by (with_reducible repeat (first | refine blk_drewN ?_ _ | refine blk_drew ?_ | refine blk_alloc ?_ _)); refine blk_far ?_ NB239_241.out _; (with_reducible repeat (first | refine blk_drewN ?_ _ | refine blk_drew ?_ | refine blk_alloc ?_ _)); exact BK239.out⟩, ⟨by (with_reducible repeat (first | refine blk_drewN ?_ _ | refine blk_drew ?_ | refine blk_alloc ?_ _)); refine blk_far ?_ NB240_241.out _; (with_reducible repeat (first | refine blk_drewN ?_ _ | refine blk_drew ?_ | refine blk_alloc ?_ _)); exact BK240.out⟩, ⟨by (with_reducible repeat (first | refine blk_drewN ?_ _ | refine blk_drew ?_ | refine blk_alloc ?_ _)); refine blk_put (cs := #[.int .u32 a0, .int .u32 x242001_1, .int .u32 x242002_1, .int .u32 x242003_1, .int .u32 x242004_1, .int .u32 x242005_1, .int .u32 x242006_1]) ?_ 4 _ rfl; (with_reducible repeat (first | refine blk_drewN ?_ _ | refine blk_drew ?_ | refine blk_alloc ?_ _)); exact BK241.out⟩, ⟨by repeat (first | (with_reducible first | exact HB.out | apply below_alloc | apply pw_below_drewN | apply below_drew1 | refine below_set ?_ GE239.out | refine below_set ?_ GE240.out | refine below_set ?_ GE241.out) | exact HB.out)⟩⟩
                · rw [if_neg c26] at H
                  have c26b0 : (x6_1 == 5) = false := beq_eq_false_iff_ne.mpr c26
                  have c26b1 : (x6_1 != 5) = true := bne_iff_ne.mpr c26
                  by_cases c30 : x6_1 = 6
                  · rw [if_pos c30] at H
                    have c30b0 : (x6_1 == 6) = true := beq_iff_eq.mpr c30
                    have c30b1 : (x6_1 != 6) = false := bne_eq_false_iff_eq.mpr c30
                    clear c30
                    have H' := Aside0.mk H
                    clear H
                    go_wp2_with (first | ((with_reducible refine gate_callee (f := 22) rfl ?_); refine goesL_ (some 27) rfl rfl Tryd.func22 (by kernel_rfl) rfl #[.int .u32 a0, .int .u32 x6_1] rfl (by (try simp only [List.map_toArray, List.map_cons, List.map_nil]); first | done | rfl | (simp only [List.length_drop, List.length_take]; rfl)) ?_; (with_reducible refine (chamberlainref03_Has.calls k1 a0 x6_1 false _ A12.out).mono ?_); rintro e w' ⟨rfl, ⟨nd, rfl⟩⟩; refine ⟨_, rfl, ?_⟩; (try (rw [drewN_self wr]; generalize hq_ : World.drewN wr _ = wr; have n0_ : Aside0 (wr.heap[gb239]? = some (.cells #[.int .u32 a1_0, .int .u32 a1_1, .int .u32 a1_2, .int .u32 a1_3, .int .u32 a1_4, .int .u32 a1_5] 41 (0, 0))) := ⟨by rw [← hq_]; exact (by (with_reducible repeat (first | refine blk_drewN ?_ _ | refine blk_drew ?_ | refine blk_alloc ?_ _)); exact BK239.out)⟩; have n1_ : Aside0 (wr.heap[gb240]? = some (.cells #[.int .u32 0, .int .u32 0, .int .u32 0, .int .u32 0, .int .u32 0, .int .u32 0, .int .u32 0] 24 (0, 0))) := ⟨by rw [← hq_]; exact (by (with_reducible repeat (first | refine blk_drewN ?_ _ | refine blk_drew ?_ | refine blk_alloc ?_ _)); exact BK240.out)⟩; have n2_ : Aside0 (wr.heap[gb241]? = some (.cells #[.int .u32 a0, .int .u32 x242001_1, .int .u32 x242002_1, .int .u32 x242003_1, .int .u32 x242004_1, .int .u32 x242005_1, .int .u32 x242006_1] 24 (0, 0))) := ⟨by rw [← hq_]; exact (by (with_reducible repeat (first | refine blk_drewN ?_ _ | refine blk_drew ?_ | refine blk_alloc ?_ _)); exact BK241.out)⟩; have n3_ : Aside0 (Below w.heap.size w wr) := ⟨by rw [← hq_]; exact (by repeat (first | (with_reducible first | exact HB.out | apply below_alloc | apply pw_below_drewN | apply below_drew1 | refine below_set ?_ GE239.out | refine below_set ?_ GE240.out | refine below_set ?_ GE241.out) | exact HB.out))⟩; clear BK239 BK240 BK241 HB hq_; have BK239 := n0_; have BK240 := n1_; have BK241 := n2_; have HB := n3_; clear n0_ n1_ n2_ n3_)); have hnb31 := NB241_239.out; have hnc31 := NB239_241.out; have hnb32 := NB241_240.out; have hnc32 := NB240_241.out; have hcz33_0 : wr.cell? ⟨gb241, 0, none⟩ = some (.int .u32 a0) := (blk_cell BK241.out 0).trans rfl; have hcz33_1 : wr.cell? ⟨gb241, 1, none⟩ = some (.int .u32 x242001_1) := (blk_cell BK241.out 1).trans rfl; have hcz33_2 : wr.cell? ⟨gb241, 2, none⟩ = some (.int .u32 x242002_1) := (blk_cell BK241.out 2).trans rfl; have hcz33_3 : wr.cell? ⟨gb241, 3, none⟩ = some (.int .u32 x242003_1) := (blk_cell BK241.out 3).trans rfl; have hcz33_4 : wr.cell? ⟨gb241, 4, none⟩ = some (.int .u32 x242004_1) := (blk_cell BK241.out 4).trans rfl; have hcz33_5 : wr.cell? ⟨gb241, 5, none⟩ = some (.int .u32 x242005_1) := (blk_cell BK241.out 5).trans rfl; have hcz33_6 : wr.cell? ⟨gb241, 6, none⟩ = some (.int .u32 x242006_1) := (blk_cell BK241.out 6).trans rfl; have hfz33_0 := blk_frozen BK241.out 0; have hfz33_1 := blk_frozen BK241.out 1; have hfz33_2 := blk_frozen BK241.out 2; have hfz33_3 := blk_frozen BK241.out 3; have hfz33_4 := blk_frozen BK241.out 4; have hfz33_5 := blk_frozen BK241.out 5; have hfz33_6 := blk_frozen BK241.out 6))
                    go_roundg k1
                    case measure => have := HK1.out; omega
                    case rel => exact ⟨((x6_1 + 1) % 4294967296), (x242001_1), (x242002_1), (x242003_1), (x242004_1), (0), (x242006_1), (by first | rfl | (simp; done) | (simp [*]; done)), H', ⟨by have := HK1.out; omega⟩, ⟨by (with_reducible repeat (first | refine blk_drewN ?_ _ | refine blk_drew ?_ | refine blk_alloc ?_ _)); refine blk_far ?_ NB239_241.out _; (with_reducible repeat (first | refine blk_drewN ?_ _ | refine blk_drew ?_ | refine blk_alloc ?_ _)); exact BK239.out⟩, ⟨by (with_reducible repeat (first | refine blk_drewN ?_ _ | refine blk_drew ?_ | refine blk_alloc ?_ _)); refine blk_far ?_ NB240_241.out _; (with_reducible repeat (first | refine blk_drewN ?_ _ | refine blk_drew ?_ | refine blk_alloc ?_ _)); exact BK240.out⟩, ⟨by (with_reducible repeat (first | refine blk_drewN ?_ _ | refine blk_drew ?_ | refine blk_alloc ?_ _)); refine blk_put (cs := #[.int .u32 a0, .int .u32 x242001_1, .int .u32 x242002_1, .int .u32 x242003_1, .int .u32 x242004_1, .int .u32 x242005_1, .int .u32 x242006_1]) ?_ 5 _ rfl; (with_reducible repeat (first | refine blk_drewN ?_ _ | refine blk_drew ?_ | refine blk_alloc ?_ _)); exact BK241.out⟩, ⟨by repeat (first | (with_reducible first | exact HB.out | apply below_alloc | apply pw_below_drewN | apply below_drew1 | refine below_set ?_ GE239.out | refine below_set ?_ GE240.out | refine below_set ?_ GE241.out) | exact HB.out)⟩⟩
                  · rw [if_neg c30] at H
                    have c30b0 : (x6_1 == 6) = false := beq_eq_false_iff_ne.mpr c30
                    have c30b1 : (x6_1 != 6) = true := bne_iff_ne.mpr c30
                    by_cases c34 : x6_1 = 7
                    · rw [if_pos c34] at H
                      have c34b0 : (x6_1 == 7) = true := beq_iff_eq.mpr c34
                      have c34b1 : (x6_1 != 7) = false := bne_eq_false_iff_eq.mpr c34
                      clear c34
                      have H' := Aside0.mk H
                      clear H
                      go_wp2_with (first | ((with_reducible refine gate_callee (f := 22) rfl ?_); refine goesL_ (some 27) rfl rfl Tryd.func22 (by kernel_rfl) rfl #[.int .u32 a0, .int .u32 x6_1] rfl (by (try simp only [List.map_toArray, List.map_cons, List.map_nil]); first | done | rfl | (simp only [List.length_drop, List.length_take]; rfl)) ?_; (with_reducible refine (chamberlainref03_Has.calls k1 a0 x6_1 false _ A12.out).mono ?_); rintro e w' ⟨rfl, ⟨nd, rfl⟩⟩; refine ⟨_, rfl, ?_⟩; (try (rw [drewN_self wr]; generalize hq_ : World.drewN wr _ = wr; have n0_ : Aside0 (wr.heap[gb239]? = some (.cells #[.int .u32 a1_0, .int .u32 a1_1, .int .u32 a1_2, .int .u32 a1_3, .int .u32 a1_4, .int .u32 a1_5] 41 (0, 0))) := ⟨by rw [← hq_]; exact (by (with_reducible repeat (first | refine blk_drewN ?_ _ | refine blk_drew ?_ | refine blk_alloc ?_ _)); exact BK239.out)⟩; have n1_ : Aside0 (wr.heap[gb240]? = some (.cells #[.int .u32 0, .int .u32 0, .int .u32 0, .int .u32 0, .int .u32 0, .int .u32 0, .int .u32 0] 24 (0, 0))) := ⟨by rw [← hq_]; exact (by (with_reducible repeat (first | refine blk_drewN ?_ _ | refine blk_drew ?_ | refine blk_alloc ?_ _)); exact BK240.out)⟩; have n2_ : Aside0 (wr.heap[gb241]? = some (.cells #[.int .u32 a0, .int .u32 x242001_1, .int .u32 x242002_1, .int .u32 x242003_1, .int .u32 x242004_1, .int .u32 x242005_1, .int .u32 x242006_1] 24 (0, 0))) := ⟨by rw [← hq_]; exact (by (with_reducible repeat (first | refine blk_drewN ?_ _ | refine blk_drew ?_ | refine blk_alloc ?_ _)); exact BK241.out)⟩; have n3_ : Aside0 (Below w.heap.size w wr) := ⟨by rw [← hq_]; exact (by repeat (first | (with_reducible first | exact HB.out | apply below_alloc | apply pw_below_drewN | apply below_drew1 | refine below_set ?_ GE239.out | refine below_set ?_ GE240.out | refine below_set ?_ GE241.out) | exact HB.out))⟩; clear BK239 BK240 BK241 HB hq_; have BK239 := n0_; have BK240 := n1_; have BK241 := n2_; have HB := n3_; clear n0_ n1_ n2_ n3_)); have hnb35 := NB241_239.out; have hnc35 := NB239_241.out; have hnb36 := NB241_240.out; have hnc36 := NB240_241.out; have hcz37_0 : wr.cell? ⟨gb241, 0, none⟩ = some (.int .u32 a0) := (blk_cell BK241.out 0).trans rfl; have hcz37_1 : wr.cell? ⟨gb241, 1, none⟩ = some (.int .u32 x242001_1) := (blk_cell BK241.out 1).trans rfl; have hcz37_2 : wr.cell? ⟨gb241, 2, none⟩ = some (.int .u32 x242002_1) := (blk_cell BK241.out 2).trans rfl; have hcz37_3 : wr.cell? ⟨gb241, 3, none⟩ = some (.int .u32 x242003_1) := (blk_cell BK241.out 3).trans rfl; have hcz37_4 : wr.cell? ⟨gb241, 4, none⟩ = some (.int .u32 x242004_1) := (blk_cell BK241.out 4).trans rfl; have hcz37_5 : wr.cell? ⟨gb241, 5, none⟩ = some (.int .u32 x242005_1) := (blk_cell BK241.out 5).trans rfl; have hcz37_6 : wr.cell? ⟨gb241, 6, none⟩ = some (.int .u32 x242006_1) := (blk_cell BK241.out 6).trans rfl; have hfz37_0 := blk_frozen BK241.out 0; have hfz37_1 := blk_frozen BK241.out 1; have hfz37_2 := blk_frozen BK241.out 2; have hfz37_3 := blk_frozen BK241.out 3; have hfz37_4 := blk_frozen BK241.out 4; have hfz37_5 := blk_frozen BK241.out 5; have hfz37_6 := blk_frozen BK241.out 6))
                      go_roundg k1
                      case measure => have := HK1.out; omega
                      case rel => exact ⟨((x6_1 + 1) % 4294967296), (x242001_1), (x242002_1), (x242003_1), (x242004_1), (x242005_1), (0), (by first | rfl | (simp; done) | (simp [*]; done)), H', ⟨by have := HK1.out; omega⟩, ⟨by (with_reducible repeat (first | refine blk_drewN ?_ _ | refine blk_drew ?_ | refine blk_alloc ?_ _)); refine blk_far ?_ NB239_241.out _; (with_reducible repeat (first | refine blk_drewN ?_ _ | refine blk_drew ?_ | refine blk_alloc ?_ _)); exact BK239.out⟩, ⟨by (with_reducible repeat (first | refine blk_drewN ?_ _ | refine blk_drew ?_ | refine blk_alloc ?_ _)); refine blk_far ?_ NB240_241.out _; (with_reducible repeat (first | refine blk_drewN ?_ _ | refine blk_drew ?_ | refine blk_alloc ?_ _)); exact BK240.out⟩, ⟨by (with_reducible repeat (first | refine blk_drewN ?_ _ | refine blk_drew ?_ | refine blk_alloc ?_ _)); refine blk_put (cs := #[.int .u32 a0, .int .u32 x242001_1, .int .u32 x242002_1, .int .u32 x242003_1, .int .u32 x242004_1, .int .u32 x242005_1, .int .u32 x242006_1]) ?_ 6 _ rfl; (with_reducible repeat (first | refine blk_drewN ?_ _ | refine blk_drew ?_ | refine blk_alloc ?_ _)); exact BK241.out⟩, ⟨by repeat (first | (with_reducible first | exact HB.out | apply below_alloc | apply pw_below_drewN | apply below_drew1 | refine below_set ?_ GE239.out | refine below_set ?_ GE240.out | refine below_set ?_ GE241.out) | exact HB.out)⟩⟩
                    · rw [if_neg c34] at H
                      have c34b0 : (x6_1 == 7) = false := beq_eq_false_iff_ne.mpr c34
                      have c34b1 : (x6_1 != 7) = true := bne_iff_ne.mpr c34
                      have H' := Aside0.mk H
                      clear H
                      go_wp2_with (first | ((with_reducible refine gate_callee (f := 22) rfl ?_); refine goesL_ (some 27) rfl rfl Tryd.func22 (by kernel_rfl) rfl #[.int .u32 a0, .int .u32 x6_1] rfl (by (try simp only [List.map_toArray, List.map_cons, List.map_nil]); first | done | rfl | (simp only [List.length_drop, List.length_take]; rfl)) ?_; (with_reducible refine (chamberlainref03_Has.calls k1 a0 x6_1 false _ A12.out).mono ?_); rintro e w' ⟨rfl, ⟨nd, rfl⟩⟩; refine ⟨_, rfl, ?_⟩))
                      go_roundg k1
                      case measure => have := HK1.out; omega
                      case rel => exact ⟨((x6_1 + 1) % 4294967296), (x242001_1), (x242002_1), (x242003_1), (x242004_1), (x242005_1), (x242006_1), (by first | rfl | (simp; done) | (simp [*]; done)), H', ⟨by have := HK1.out; omega⟩, ⟨by (with_reducible repeat (first | refine blk_drewN ?_ _ | refine blk_drew ?_ | refine blk_alloc ?_ _)); exact BK239.out⟩, ⟨by (with_reducible repeat (first | refine blk_drewN ?_ _ | refine blk_drew ?_ | refine blk_alloc ?_ _)); exact BK240.out⟩, ⟨by (with_reducible repeat (first | refine blk_drewN ?_ _ | refine blk_drew ?_ | refine blk_alloc ?_ _)); exact BK241.out⟩, ⟨by repeat (first | (with_reducible first | exact HB.out | apply below_alloc | apply pw_below_drewN | apply below_drew1 | refine below_set ?_ GE239.out | refine below_set ?_ GE240.out | refine below_set ?_ GE241.out) | exact HB.out)⟩⟩
      · rw [if_neg c11] at H
        have c11b0 : decide (x6_1 ≤ 7) = false := decide_eq_false c11
        clear c11
        simp only [Option.some.injEq, Prod.mk.injEq] at H
        obtain ⟨rfl, rfl, rfl, rfl, rfl, rfl, rfl⟩ := H
        have hnb38 := NB241_239.out
        have hnc38 := NB239_241.out
        have hnb39 := NB241_240.out
        have hnc39 := NB240_241.out
        have hcz40_0 : wr.cell? ⟨gb241, 0, none⟩ = some (.int .u32 a0) := (blk_cell BK241.out 0).trans rfl
        have hcz40_1 : wr.cell? ⟨gb241, 1, none⟩ = some (.int .u32 x242001_1) := (blk_cell BK241.out 1).trans rfl
        have hcz40_2 : wr.cell? ⟨gb241, 2, none⟩ = some (.int .u32 x242002_1) := (blk_cell BK241.out 2).trans rfl
        have hcz40_3 : wr.cell? ⟨gb241, 3, none⟩ = some (.int .u32 x242003_1) := (blk_cell BK241.out 3).trans rfl
        have hcz40_4 : wr.cell? ⟨gb241, 4, none⟩ = some (.int .u32 x242004_1) := (blk_cell BK241.out 4).trans rfl
        have hcz40_5 : wr.cell? ⟨gb241, 5, none⟩ = some (.int .u32 x242005_1) := (blk_cell BK241.out 5).trans rfl
        have hcz40_6 : wr.cell? ⟨gb241, 6, none⟩ = some (.int .u32 x242006_1) := (blk_cell BK241.out 6).trans rfl
        have hfz40_0 := blk_frozen BK241.out 0
        have hfz40_1 := blk_frozen BK241.out 1
        have hfz40_2 := blk_frozen BK241.out 2
        have hfz40_3 := blk_frozen BK241.out 3
        have hfz40_4 := blk_frozen BK241.out 4
        have hfz40_5 := blk_frozen BK241.out 5
        have hfz40_6 := blk_frozen BK241.out 6
        have hnb41 := NB240_239.out
        have hnc41 := NB239_240.out
        have hcz42_0 : wr.cell? ⟨gb240, 0, none⟩ = some (.int .u32 0) := (blk_cell BK240.out 0).trans rfl
        have hcz42_1 : wr.cell? ⟨gb240, 1, none⟩ = some (.int .u32 0) := (blk_cell BK240.out 1).trans rfl
        have hcz42_2 : wr.cell? ⟨gb240, 2, none⟩ = some (.int .u32 0) := (blk_cell BK240.out 2).trans rfl
        have hcz42_3 : wr.cell? ⟨gb240, 3, none⟩ = some (.int .u32 0) := (blk_cell BK240.out 3).trans rfl
        have hcz42_4 : wr.cell? ⟨gb240, 4, none⟩ = some (.int .u32 0) := (blk_cell BK240.out 4).trans rfl
        have hcz42_5 : wr.cell? ⟨gb240, 5, none⟩ = some (.int .u32 0) := (blk_cell BK240.out 5).trans rfl
        have hcz42_6 : wr.cell? ⟨gb240, 6, none⟩ = some (.int .u32 0) := (blk_cell BK240.out 6).trans rfl
        have hfz42_0 := blk_frozen BK240.out 0
        have hfz42_1 := blk_frozen BK240.out 1
        have hfz42_2 := blk_frozen BK240.out 2
        have hfz42_3 := blk_frozen BK240.out 3
        have hfz42_4 := blk_frozen BK240.out 4
        have hfz42_5 := blk_frozen BK240.out 5
        have hfz42_6 := blk_frozen BK240.out 6
        go_wp2
        refine bodyPost_ret (results_cell_row rfl _ _ gb240 24 #[.int .u32 a0, .int .u32 x242001_1, .int .u32 x242002_1, .int .u32 x242003_1, .int .u32 x242004_1, .int .u32 x242005_1, .int .u32 x242006_1] (0, 0) _ rfl (by (with_reducible repeat (first | refine blk_drewN ?_ _ | refine blk_drew ?_ | refine blk_alloc ?_ _)); refine blk_put (cs := #[.int .u32 a0, .int .u32 x242001_1, .int .u32 x242002_1, .int .u32 x242003_1, .int .u32 x242004_1, .int .u32 x242005_1, .int .u32 0]) ?_ 6 _ rfl; (with_reducible repeat (first | refine blk_drewN ?_ _ | refine blk_drew ?_ | refine blk_alloc ?_ _)); refine blk_put (cs := #[.int .u32 a0, .int .u32 x242001_1, .int .u32 x242002_1, .int .u32 x242003_1, .int .u32 x242004_1, .int .u32 0, .int .u32 0]) ?_ 5 _ rfl; (with_reducible repeat (first | refine blk_drewN ?_ _ | refine blk_drew ?_ | refine blk_alloc ?_ _)); refine blk_put (cs := #[.int .u32 a0, .int .u32 x242001_1, .int .u32 x242002_1, .int .u32 x242003_1, .int .u32 0, .int .u32 0, .int .u32 0]) ?_ 4 _ rfl; (with_reducible repeat (first | refine blk_drewN ?_ _ | refine blk_drew ?_ | refine blk_alloc ?_ _)); refine blk_put (cs := #[.int .u32 a0, .int .u32 x242001_1, .int .u32 x242002_1, .int .u32 0, .int .u32 0, .int .u32 0, .int .u32 0]) ?_ 3 _ rfl; (with_reducible repeat (first | refine blk_drewN ?_ _ | refine blk_drew ?_ | refine blk_alloc ?_ _)); refine blk_put (cs := #[.int .u32 a0, .int .u32 x242001_1, .int .u32 0, .int .u32 0, .int .u32 0, .int .u32 0, .int .u32 0]) ?_ 2 _ rfl; (with_reducible repeat (first | refine blk_drewN ?_ _ | refine blk_drew ?_ | refine blk_alloc ?_ _)); refine blk_put (cs := #[.int .u32 a0, .int .u32 0, .int .u32 0, .int .u32 0, .int .u32 0, .int .u32 0, .int .u32 0]) ?_ 1 _ rfl; (with_reducible repeat (first | refine blk_drewN ?_ _ | refine blk_drew ?_ | refine blk_alloc ?_ _)); refine blk_put (cs := #[.int .u32 0, .int .u32 0, .int .u32 0, .int .u32 0, .int .u32 0, .int .u32 0, .int .u32 0]) ?_ 0 _ rfl; (with_reducible repeat (first | refine blk_drewN ?_ _ | refine blk_drew ?_ | refine blk_alloc ?_ _)); exact BK240.out) Tryd.underlying24 rfl (by kernel_rfl)) rfl ?_
        exact ⟨by first | rfl | (simp [errW_none, errW_some] <;> rfl) | (simp [*, errW_none, errW_some] <;> rfl), by repeat (first | (with_reducible first | exact HB.out | apply below_alloc | apply pw_below_drewN | apply below_drew1 | refine below_set ?_ GE239.out | refine below_set ?_ GE240.out | refine below_set ?_ GE241.out) | exact HB.out)⟩

end Go.Proofs.YtkmgfleoondblaaDoor.PMsgSpoilt
