-- Written for this claim by wip/tools/myprint.py (print.py's forms; proofs of the faked functions by hand).
import Derived.Test.YtifdlpnpbicahaaPBoxKeepsx0
import Derived.Test.YtifdlpnpbicahaaPBoxKeepsx1
import Derived.Test.YtifdlpnpbicahaaPBoxKeepsx2
namespace Go.Proofs.Ytifdlpnpbicahaa.PBoxKeeps
open Go.RowKit Go.Proofs.YtifdlpnpbicahaaW.PrintWords Go.Proofs.YtifdlpnpbicahaaW.PrintLast Go.Proofs.YtifdlpnpbicahaaW.PrintMore
attribute [local go_sem] max2_int min2_int max_two min_two max_three min_three max_four min_four   -- for this text's walks alone
set_option linter.unusedVariables false
set_option linter.unusedSimpArgs false

/-! ### chamberlainlaw07_awake: function 8 -/
def chamberlainlaw07_awake.f (k : Nat)  : Option (Bool) := (box_Seal.f 1 ([] : List (S43)) 9 5 2 (([7, 8] : List Int))).bind fun bt167 => ((box_Seal.f bt167.1 bt167.2.1 9 5 2 ([] : List Int)).bind fun bt173 => ((box_Seal.f bt167.1 bt167.2.1 10 5 2 ([] : List Int)).bind fun bt179 => (if 65 ≤ 70368744177664 then ((box_Seal.f bt167.1 bt167.2.1 9 5 2 (List.replicate 65 0)).bind fun bt188 => ((box_Open.f bt167.1 bt167.2.1 5 2 9).bind fun bt194 => ((box_Open.f bt167.1 bt167.2.1 5 3 9).bind fun bt198 => ((box_Open.f bt167.1 bt167.2.1 4 2 9).bind fun bt202 => ((box_Open.f bt167.1 bt167.2.1 5 2 8).bind fun bt206 => (if bt167.2.2 = 0 then (if bt173.2.2 = 8 then (if bt179.2.2 = 10 then (if bt188.2.2 = 3 then (if bt194.2 = true then ((chamberlainref01_Same.f k bt194.1 (([7, 8] : List Int))).bind fun t213 => (if t213 = true then (if bt198.2 = true then (some false) else (if bt202.2 = true then (some false) else (if bt206.2 = true then (some false) else ((box_Free.f 1 ([] : List (S43))).bind fun t214 => (if t214 = 1 then ((box_Free.f bt167.1 bt167.2.1).bind fun t215 => (if t215 = 0 then ((box_Right.f bt167.1 bt167.2.1).bind fun t216 => (if t216 = true then ((box_Right.f 65 ([] : List (S43))).bind fun t217 => (some (!t217))) else (some false))) else (some false))) else (some false)))))) else (some false))) else (some false)) else (some false)) else (some false)) else (some false)) else (some false))))))) else (none))))
theorem chamberlainlaw07_awake.mono : ∀ k, LeO (chamberlainlaw07_awake.f k ) (chamberlainlaw07_awake.f (k + 1) ) := by
  intro  k
  unfold chamberlainlaw07_awake.f
  repeat' first
      | (with_reducible exact chamberlainref01_Same.mono _ _ _)
      | (with_reducible exact LeO.refl _)
      | (with_reducible exact LeO.none _)
      | (with_reducible refine LeO.ite ?_ ?_)
      | (with_reducible refine LeO.bind ?_ (fun _ => ?_))
      | exact chamberlainref01_Same.mono _ _ _
      | exact LeO.none _
      | refine LeO.ite ?_ ?_
      | refine LeO.bind ?_ (fun _ => ?_)
def chamberlainlaw07_awake.T5 : Bool × List (List Nat × List Nat) := (true, [([], []), ([], []), ([0, 1], [0, 1]), ([2], [2]), ([3], [3]), ([3], [3]), ([], []), ([6, 4, 2, 0, 1, 2, 3, 4, 6], [4, 6]), ([5, 7, 0, 1, 2, 3, 4, 5, 6, 7], [5])])
def chamberlainlaw07_awake.B5 : List Nat := [0, 0, 3, 7, 15, 15, 0, 95, 255]
theorem chamberlainlaw07_awake.tab5 : rtab .any (opsOf Try.f8 5) = chamberlainlaw07_awake.T5 := by kernel_rfl
theorem chamberlainlaw07_awake.bits5 : waitsOk chamberlainlaw07_awake.T5.2 chamberlainlaw07_awake.B5 = true := by kernel_rfl
theorem chamberlainlaw07_awake.at60 : chamberlainlaw07_awake.f 60 = some true := by decide +kernel
theorem chamberlainlaw07_awake.only (k : Nat) (r : Bool) (h : chamberlainlaw07_awake.f k = some r) : r = true := by
  have h1 := at_rounds chamberlainlaw07_awake.mono (Nat.le_max_left k 60) h
  have h2 := at_rounds chamberlainlaw07_awake.mono (Nat.le_max_right k 60) chamberlainlaw07_awake.at60
  rw [h1] at h2
  exact Option.some.inj h2
set_option maxHeartbeats 8000000 in
set_option maxRecDepth 100000 in
theorem chamberlainlaw07_awake.calls (k : Nat)  (r : Bool) (w : World) (h : chamberlainlaw07_awake.f k  = some r) :
    Calls Try.prog 8 #[] w fun e w' => e = .returned (.bool r) ∧ Below w.heap.size w w' := by
  have hT := Aside0.mk (chamberlainlaw07_awake.only k r h)
  have hu24 := Try.underlying24
  have HB := Aside0.mk (Below.refl w.heap.size w)
  have H : ((box_Seal.f 1 ([] : List (S43)) 9 5 2 (([7, 8] : List Int))).bind fun bt167 => ((box_Seal.f bt167.1 bt167.2.1 9 5 2 ([] : List Int)).bind fun bt173 => ((box_Seal.f bt167.1 bt167.2.1 10 5 2 ([] : List Int)).bind fun bt179 => (if 65 ≤ 70368744177664 then ((box_Seal.f bt167.1 bt167.2.1 9 5 2 (List.replicate 65 0)).bind fun bt188 => ((box_Open.f bt167.1 bt167.2.1 5 2 9).bind fun bt194 => ((box_Open.f bt167.1 bt167.2.1 5 3 9).bind fun bt198 => ((box_Open.f bt167.1 bt167.2.1 4 2 9).bind fun bt202 => ((box_Open.f bt167.1 bt167.2.1 5 2 8).bind fun bt206 => (if bt167.2.2 = 0 then (if bt173.2.2 = 8 then (if bt179.2.2 = 10 then (if bt188.2.2 = 3 then (if bt194.2 = true then ((chamberlainref01_Same.f k bt194.1 (([7, 8] : List Int))).bind fun t213 => (if t213 = true then (if bt198.2 = true then (some false) else (if bt202.2 = true then (some false) else (if bt206.2 = true then (some false) else ((box_Free.f 1 ([] : List (S43))).bind fun t214 => (if t214 = 1 then ((box_Free.f bt167.1 bt167.2.1).bind fun t215 => (if t215 = 0 then ((box_Right.f bt167.1 bt167.2.1).bind fun t216 => (if t216 = true then ((box_Right.f 65 ([] : List (S43))).bind fun t217 => (some (!t217))) else (some false))) else (some false))) else (some false)))))) else (some false))) else (some false)) else (some false)) else (some false)) else (some false)) else (some false))))))) else (none))))) = some r := h
  clear h
  obtain ⟨y164, hy164⟩ : ∃ y_ : List Int, y_ = (([7, 8] : List Int)) := ⟨_, rfl⟩
  replace H : ((box_Seal.f 1 ([] : List (S43)) 9 5 2 y164).bind fun bt167 => ((box_Seal.f bt167.1 bt167.2.1 9 5 2 ([] : List Int)).bind fun bt173 => ((box_Seal.f bt167.1 bt167.2.1 10 5 2 ([] : List Int)).bind fun bt179 => (if 65 ≤ 70368744177664 then ((box_Seal.f bt167.1 bt167.2.1 9 5 2 (List.replicate 65 0)).bind fun bt188 => ((box_Open.f bt167.1 bt167.2.1 5 2 9).bind fun bt194 => ((box_Open.f bt167.1 bt167.2.1 5 3 9).bind fun bt198 => ((box_Open.f bt167.1 bt167.2.1 4 2 9).bind fun bt202 => ((box_Open.f bt167.1 bt167.2.1 5 2 8).bind fun bt206 => (if bt167.2.2 = 0 then (if bt173.2.2 = 8 then (if bt179.2.2 = 10 then (if bt188.2.2 = 3 then (if bt194.2 = true then ((chamberlainref01_Same.f k bt194.1 (([7, 8] : List Int))).bind fun t213 => (if t213 = true then (if bt198.2 = true then (some false) else (if bt202.2 = true then (some false) else (if bt206.2 = true then (some false) else ((box_Free.f 1 ([] : List (S43))).bind fun t214 => (if t214 = 1 then ((box_Free.f bt167.1 bt167.2.1).bind fun t215 => (if t215 = 0 then ((box_Right.f bt167.1 bt167.2.1).bind fun t216 => (if t216 = true then ((box_Right.f 65 ([] : List (S43))).bind fun t217 => (some (!t217))) else (some false))) else (some false))) else (some false)))))) else (some false))) else (some false)) else (some false)) else (some false)) else (some false)) else (some false))))))) else (none))))) = some r := by first | (rw [hy164]; with_reducible exact H) | (have H2_ := (Option.bind_some _ _).symm.trans H; rw [hy164]; with_reducible exact H2_) | (have H2_ := (Option.bind_some _ _).symm.trans H; with_reducible exact H2_) | with_reducible exact H | (rw [hy164]; exact H) | exact H
  have Ny164 := Aside0.mk hy164
  clear hy164
  replace H := Option.bind_eq_some_iff.mp H
  obtain ⟨⟨t167, t168, t171⟩, A10, H⟩ := H
  replace H : ((box_Seal.f t167 t168 9 5 2 ([] : List Int)).bind fun bt173 => ((box_Seal.f t167 t168 10 5 2 ([] : List Int)).bind fun bt179 => (if 65 ≤ 70368744177664 then ((box_Seal.f t167 t168 9 5 2 (List.replicate 65 0)).bind fun bt188 => ((box_Open.f t167 t168 5 2 9).bind fun bt194 => ((box_Open.f t167 t168 5 3 9).bind fun bt198 => ((box_Open.f t167 t168 4 2 9).bind fun bt202 => ((box_Open.f t167 t168 5 2 8).bind fun bt206 => (if t171 = 0 then (if bt173.2.2 = 8 then (if bt179.2.2 = 10 then (if bt188.2.2 = 3 then (if bt194.2 = true then ((chamberlainref01_Same.f k bt194.1 (([7, 8] : List Int))).bind fun t213 => (if t213 = true then (if bt198.2 = true then (some false) else (if bt202.2 = true then (some false) else (if bt206.2 = true then (some false) else ((box_Free.f 1 ([] : List (S43))).bind fun t214 => (if t214 = 1 then ((box_Free.f t167 t168).bind fun t215 => (if t215 = 0 then ((box_Right.f t167 t168).bind fun t216 => (if t216 = true then ((box_Right.f 65 ([] : List (S43))).bind fun t217 => (some (!t217))) else (some false))) else (some false))) else (some false)))))) else (some false))) else (some false)) else (some false)) else (some false)) else (some false)) else (some false))))))) else (none)))) = some r := H
  have A1 := Aside0.mk A10
  clear A10
  replace H := Option.bind_eq_some_iff.mp H
  obtain ⟨⟨t173, t174, t177⟩, A20, H⟩ := H
  replace H : ((box_Seal.f t167 t168 10 5 2 ([] : List Int)).bind fun bt179 => (if 65 ≤ 70368744177664 then ((box_Seal.f t167 t168 9 5 2 (List.replicate 65 0)).bind fun bt188 => ((box_Open.f t167 t168 5 2 9).bind fun bt194 => ((box_Open.f t167 t168 5 3 9).bind fun bt198 => ((box_Open.f t167 t168 4 2 9).bind fun bt202 => ((box_Open.f t167 t168 5 2 8).bind fun bt206 => (if t171 = 0 then (if t177 = 8 then (if bt179.2.2 = 10 then (if bt188.2.2 = 3 then (if bt194.2 = true then ((chamberlainref01_Same.f k bt194.1 (([7, 8] : List Int))).bind fun t213 => (if t213 = true then (if bt198.2 = true then (some false) else (if bt202.2 = true then (some false) else (if bt206.2 = true then (some false) else ((box_Free.f 1 ([] : List (S43))).bind fun t214 => (if t214 = 1 then ((box_Free.f t167 t168).bind fun t215 => (if t215 = 0 then ((box_Right.f t167 t168).bind fun t216 => (if t216 = true then ((box_Right.f 65 ([] : List (S43))).bind fun t217 => (some (!t217))) else (some false))) else (some false))) else (some false)))))) else (some false))) else (some false)) else (some false)) else (some false)) else (some false)) else (some false))))))) else (none))) = some r := H
  have A2 := Aside0.mk A20
  clear A20
  replace H := Option.bind_eq_some_iff.mp H
  obtain ⟨⟨t179, t180, t183⟩, A30, H⟩ := H
  replace H : (if 65 ≤ 70368744177664 then ((box_Seal.f t167 t168 9 5 2 (List.replicate 65 0)).bind fun bt188 => ((box_Open.f t167 t168 5 2 9).bind fun bt194 => ((box_Open.f t167 t168 5 3 9).bind fun bt198 => ((box_Open.f t167 t168 4 2 9).bind fun bt202 => ((box_Open.f t167 t168 5 2 8).bind fun bt206 => (if t171 = 0 then (if t177 = 8 then (if t183 = 10 then (if bt188.2.2 = 3 then (if bt194.2 = true then ((chamberlainref01_Same.f k bt194.1 (([7, 8] : List Int))).bind fun t213 => (if t213 = true then (if bt198.2 = true then (some false) else (if bt202.2 = true then (some false) else (if bt206.2 = true then (some false) else ((box_Free.f 1 ([] : List (S43))).bind fun t214 => (if t214 = 1 then ((box_Free.f t167 t168).bind fun t215 => (if t215 = 0 then ((box_Right.f t167 t168).bind fun t216 => (if t216 = true then ((box_Right.f 65 ([] : List (S43))).bind fun t217 => (some (!t217))) else (some false))) else (some false))) else (some false)))))) else (some false))) else (some false)) else (some false)) else (some false)) else (some false)) else (some false))))))) else (none)) = some r := H
  have A3 := Aside0.mk A30
  clear A30
  by_cases c4 : 65 ≤ 70368744177664
  · rw [if_pos c4] at H
    have c4b0 := eq_true c4
    have c4b1 : decide (65 ≤ 70368744177664) = true := decide_eq_true c4
    clear c4
    obtain ⟨y185, hy185⟩ : ∃ y_ : List Int, y_ = (List.replicate 65 0) := ⟨_, rfl⟩
    replace H : ((box_Seal.f t167 t168 9 5 2 y185).bind fun bt188 => ((box_Open.f t167 t168 5 2 9).bind fun bt194 => ((box_Open.f t167 t168 5 3 9).bind fun bt198 => ((box_Open.f t167 t168 4 2 9).bind fun bt202 => ((box_Open.f t167 t168 5 2 8).bind fun bt206 => (if t171 = 0 then (if t177 = 8 then (if t183 = 10 then (if bt188.2.2 = 3 then (if bt194.2 = true then ((chamberlainref01_Same.f k bt194.1 (([7, 8] : List Int))).bind fun t213 => (if t213 = true then (if bt198.2 = true then (some false) else (if bt202.2 = true then (some false) else (if bt206.2 = true then (some false) else ((box_Free.f 1 ([] : List (S43))).bind fun t214 => (if t214 = 1 then ((box_Free.f t167 t168).bind fun t215 => (if t215 = 0 then ((box_Right.f t167 t168).bind fun t216 => (if t216 = true then ((box_Right.f 65 ([] : List (S43))).bind fun t217 => (some (!t217))) else (some false))) else (some false))) else (some false)))))) else (some false))) else (some false)) else (some false)) else (some false)) else (some false)) else (some false))))))) = some r := by first | (rw [hy185]; with_reducible exact H) | (have H2_ := (Option.bind_some _ _).symm.trans H; rw [hy185]; with_reducible exact H2_) | (have H2_ := (Option.bind_some _ _).symm.trans H; with_reducible exact H2_) | with_reducible exact H | (rw [hy185]; exact H) | exact H
    have Ny185 := Aside0.mk hy185
    clear hy185
    replace H := Option.bind_eq_some_iff.mp H
    obtain ⟨⟨t188, t189, t192⟩, A50, H⟩ := H
    replace H : ((box_Open.f t167 t168 5 2 9).bind fun bt194 => ((box_Open.f t167 t168 5 3 9).bind fun bt198 => ((box_Open.f t167 t168 4 2 9).bind fun bt202 => ((box_Open.f t167 t168 5 2 8).bind fun bt206 => (if t171 = 0 then (if t177 = 8 then (if t183 = 10 then (if t192 = 3 then (if bt194.2 = true then ((chamberlainref01_Same.f k bt194.1 (([7, 8] : List Int))).bind fun t213 => (if t213 = true then (if bt198.2 = true then (some false) else (if bt202.2 = true then (some false) else (if bt206.2 = true then (some false) else ((box_Free.f 1 ([] : List (S43))).bind fun t214 => (if t214 = 1 then ((box_Free.f t167 t168).bind fun t215 => (if t215 = 0 then ((box_Right.f t167 t168).bind fun t216 => (if t216 = true then ((box_Right.f 65 ([] : List (S43))).bind fun t217 => (some (!t217))) else (some false))) else (some false))) else (some false)))))) else (some false))) else (some false)) else (some false)) else (some false)) else (some false)) else (some false)))))) = some r := H
    have A5 := Aside0.mk A50
    clear A50
    replace H := Option.bind_eq_some_iff.mp H
    obtain ⟨⟨t194, t197⟩, A60, H⟩ := H
    replace H : ((box_Open.f t167 t168 5 3 9).bind fun bt198 => ((box_Open.f t167 t168 4 2 9).bind fun bt202 => ((box_Open.f t167 t168 5 2 8).bind fun bt206 => (if t171 = 0 then (if t177 = 8 then (if t183 = 10 then (if t192 = 3 then (if t197 = true then ((chamberlainref01_Same.f k t194 (([7, 8] : List Int))).bind fun t213 => (if t213 = true then (if bt198.2 = true then (some false) else (if bt202.2 = true then (some false) else (if bt206.2 = true then (some false) else ((box_Free.f 1 ([] : List (S43))).bind fun t214 => (if t214 = 1 then ((box_Free.f t167 t168).bind fun t215 => (if t215 = 0 then ((box_Right.f t167 t168).bind fun t216 => (if t216 = true then ((box_Right.f 65 ([] : List (S43))).bind fun t217 => (some (!t217))) else (some false))) else (some false))) else (some false)))))) else (some false))) else (some false)) else (some false)) else (some false)) else (some false)) else (some false))))) = some r := H
    have A6 := Aside0.mk A60
    clear A60
    replace H := Option.bind_eq_some_iff.mp H
    obtain ⟨⟨t198, t201⟩, A70, H⟩ := H
    replace H : ((box_Open.f t167 t168 4 2 9).bind fun bt202 => ((box_Open.f t167 t168 5 2 8).bind fun bt206 => (if t171 = 0 then (if t177 = 8 then (if t183 = 10 then (if t192 = 3 then (if t197 = true then ((chamberlainref01_Same.f k t194 (([7, 8] : List Int))).bind fun t213 => (if t213 = true then (if t201 = true then (some false) else (if bt202.2 = true then (some false) else (if bt206.2 = true then (some false) else ((box_Free.f 1 ([] : List (S43))).bind fun t214 => (if t214 = 1 then ((box_Free.f t167 t168).bind fun t215 => (if t215 = 0 then ((box_Right.f t167 t168).bind fun t216 => (if t216 = true then ((box_Right.f 65 ([] : List (S43))).bind fun t217 => (some (!t217))) else (some false))) else (some false))) else (some false)))))) else (some false))) else (some false)) else (some false)) else (some false)) else (some false)) else (some false)))) = some r := H
    have A7 := Aside0.mk A70
    clear A70
    replace H := Option.bind_eq_some_iff.mp H
    obtain ⟨⟨t202, t205⟩, A80, H⟩ := H
    replace H : ((box_Open.f t167 t168 5 2 8).bind fun bt206 => (if t171 = 0 then (if t177 = 8 then (if t183 = 10 then (if t192 = 3 then (if t197 = true then ((chamberlainref01_Same.f k t194 (([7, 8] : List Int))).bind fun t213 => (if t213 = true then (if t201 = true then (some false) else (if t205 = true then (some false) else (if bt206.2 = true then (some false) else ((box_Free.f 1 ([] : List (S43))).bind fun t214 => (if t214 = 1 then ((box_Free.f t167 t168).bind fun t215 => (if t215 = 0 then ((box_Right.f t167 t168).bind fun t216 => (if t216 = true then ((box_Right.f 65 ([] : List (S43))).bind fun t217 => (some (!t217))) else (some false))) else (some false))) else (some false)))))) else (some false))) else (some false)) else (some false)) else (some false)) else (some false)) else (some false))) = some r := H
    have A8 := Aside0.mk A80
    clear A80
    replace H := Option.bind_eq_some_iff.mp H
    obtain ⟨⟨t206, t209⟩, A90, H⟩ := H
    replace H : (if t171 = 0 then (if t177 = 8 then (if t183 = 10 then (if t192 = 3 then (if t197 = true then ((chamberlainref01_Same.f k t194 (([7, 8] : List Int))).bind fun t213 => (if t213 = true then (if t201 = true then (some false) else (if t205 = true then (some false) else (if t209 = true then (some false) else ((box_Free.f 1 ([] : List (S43))).bind fun t214 => (if t214 = 1 then ((box_Free.f t167 t168).bind fun t215 => (if t215 = 0 then ((box_Right.f t167 t168).bind fun t216 => (if t216 = true then ((box_Right.f 65 ([] : List (S43))).bind fun t217 => (some (!t217))) else (some false))) else (some false))) else (some false)))))) else (some false))) else (some false)) else (some false)) else (some false)) else (some false)) else (some false)) = some r := H
    have A9 := Aside0.mk A90
    clear A90
    by_cases c10 : t171 = 0
    · rw [if_pos c10] at H
      have c10b0 : (t171 == 0) = true := beq_iff_eq.mpr c10
      have c10b1 : (t171 != 0) = false := bne_eq_false_iff_eq.mpr c10
      clear c10
      by_cases c11 : t177 = 8
      · rw [if_pos c11] at H
        have c11b0 : (t177 == 8) = true := beq_iff_eq.mpr c11
        have c11b1 : (t177 != 8) = false := bne_eq_false_iff_eq.mpr c11
        clear c11
        by_cases c12 : t183 = 10
        · rw [if_pos c12] at H
          have c12b0 : (t183 == 10) = true := beq_iff_eq.mpr c12
          have c12b1 : (t183 != 10) = false := bne_eq_false_iff_eq.mpr c12
          clear c12
          by_cases c13 : t192 = 3
          · rw [if_pos c13] at H
            have c13b0 : (t192 == 3) = true := beq_iff_eq.mpr c13
            have c13b1 : (t192 != 3) = false := bne_eq_false_iff_eq.mpr c13
            clear c13
            by_cases c14 : t197 = true
            · subst c14
              have H1 : ((chamberlainref01_Same.f k t194 (([7, 8] : List Int))).bind fun t213 => (if t213 = true then (if t201 = true then (some false) else (if t205 = true then (some false) else (if t209 = true then (some false) else ((box_Free.f 1 ([] : List (S43))).bind fun t214 => (if t214 = 1 then ((box_Free.f t167 t168).bind fun t215 => (if t215 = 0 then ((box_Right.f t167 t168).bind fun t216 => (if t216 = true then ((box_Right.f 65 ([] : List (S43))).bind fun t217 => (some (!t217))) else (some false))) else (some false))) else (some false)))))) else (some false))) = some r := by rw [if_pos rfl] at H; exact H
              clear H
              have H := H1
              clear H1
              obtain ⟨y210, hy210⟩ : ∃ y_ : List Int, y_ = (([7, 8] : List Int)) := ⟨_, rfl⟩
              replace H : ((chamberlainref01_Same.f k t194 y210).bind fun t213 => (if t213 = true then (if t201 = true then (some false) else (if t205 = true then (some false) else (if t209 = true then (some false) else ((box_Free.f 1 ([] : List (S43))).bind fun t214 => (if t214 = 1 then ((box_Free.f t167 t168).bind fun t215 => (if t215 = 0 then ((box_Right.f t167 t168).bind fun t216 => (if t216 = true then ((box_Right.f 65 ([] : List (S43))).bind fun t217 => (some (!t217))) else (some false))) else (some false))) else (some false)))))) else (some false))) = some r := by first | (rw [hy210]; with_reducible exact H) | (have H2_ := (Option.bind_some _ _).symm.trans H; rw [hy210]; with_reducible exact H2_) | (have H2_ := (Option.bind_some _ _).symm.trans H; with_reducible exact H2_) | with_reducible exact H | (rw [hy210]; exact H) | exact H
              have Ny210 := Aside0.mk hy210
              clear hy210
              replace H := Option.bind_eq_some_iff.mp H
              obtain ⟨t213, A150, H⟩ := H
              replace H : (if t213 = true then (if t201 = true then (some false) else (if t205 = true then (some false) else (if t209 = true then (some false) else ((box_Free.f 1 ([] : List (S43))).bind fun t214 => (if t214 = 1 then ((box_Free.f t167 t168).bind fun t215 => (if t215 = 0 then ((box_Right.f t167 t168).bind fun t216 => (if t216 = true then ((box_Right.f 65 ([] : List (S43))).bind fun t217 => (some (!t217))) else (some false))) else (some false))) else (some false)))))) else (some false)) = some r := H
              have A15 := Aside0.mk A150
              clear A150
              by_cases c16 : t213 = true
              · subst c16
                have H1 : (if t201 = true then (some false) else (if t205 = true then (some false) else (if t209 = true then (some false) else ((box_Free.f 1 ([] : List (S43))).bind fun t214 => (if t214 = 1 then ((box_Free.f t167 t168).bind fun t215 => (if t215 = 0 then ((box_Right.f t167 t168).bind fun t216 => (if t216 = true then ((box_Right.f 65 ([] : List (S43))).bind fun t217 => (some (!t217))) else (some false))) else (some false))) else (some false)))))) = some r := by rw [if_pos rfl] at H; exact H
                clear H
                have H := H1
                clear H1
                by_cases c17 : t201 = true
                · subst c17
                  have H1 : (some false) = some r := by rw [if_pos rfl] at H; exact H
                  clear H
                  have H := H1
                  clear H1
                  exact absurd (hT.out.symm.trans (Option.some.inj H).symm) (by decide)
                · replace c17 := Bool.eq_false_iff.mpr c17
                  subst c17
                  have H1 : (if t205 = true then (some false) else (if t209 = true then (some false) else ((box_Free.f 1 ([] : List (S43))).bind fun t214 => (if t214 = 1 then ((box_Free.f t167 t168).bind fun t215 => (if t215 = 0 then ((box_Right.f t167 t168).bind fun t216 => (if t216 = true then ((box_Right.f 65 ([] : List (S43))).bind fun t217 => (some (!t217))) else (some false))) else (some false))) else (some false))))) = some r := by rw [if_neg (show ¬ (false = true) by decide)] at H; exact H
                  clear H
                  have H := H1
                  clear H1
                  by_cases c69 : t205 = true
                  · subst c69
                    have H1 : (some false) = some r := by rw [if_pos rfl] at H; exact H
                    clear H
                    have H := H1
                    clear H1
                    exact absurd (hT.out.symm.trans (Option.some.inj H).symm) (by decide)
                  · replace c69 := Bool.eq_false_iff.mpr c69
                    subst c69
                    have H1 : (if t209 = true then (some false) else ((box_Free.f 1 ([] : List (S43))).bind fun t214 => (if t214 = 1 then ((box_Free.f t167 t168).bind fun t215 => (if t215 = 0 then ((box_Right.f t167 t168).bind fun t216 => (if t216 = true then ((box_Right.f 65 ([] : List (S43))).bind fun t217 => (some (!t217))) else (some false))) else (some false))) else (some false)))) = some r := by rw [if_neg (show ¬ (false = true) by decide)] at H; exact H
                    clear H
                    have H := H1
                    clear H1
                    by_cases c121 : t209 = true
                    · subst c121
                      have H1 : (some false) = some r := by rw [if_pos rfl] at H; exact H
                      clear H
                      have H := H1
                      clear H1
                      exact absurd (hT.out.symm.trans (Option.some.inj H).symm) (by decide)
                    · replace c121 := Bool.eq_false_iff.mpr c121
                      subst c121
                      have H1 : ((box_Free.f 1 ([] : List (S43))).bind fun t214 => (if t214 = 1 then ((box_Free.f t167 t168).bind fun t215 => (if t215 = 0 then ((box_Right.f t167 t168).bind fun t216 => (if t216 = true then ((box_Right.f 65 ([] : List (S43))).bind fun t217 => (some (!t217))) else (some false))) else (some false))) else (some false))) = some r := by rw [if_neg (show ¬ (false = true) by decide)] at H; exact H
                      clear H
                      have H := H1
                      clear H1
                      replace H := Option.bind_eq_some_iff.mp H
                      obtain ⟨t214, A1730, H⟩ := H
                      replace H : (if t214 = 1 then ((box_Free.f t167 t168).bind fun t215 => (if t215 = 0 then ((box_Right.f t167 t168).bind fun t216 => (if t216 = true then ((box_Right.f 65 ([] : List (S43))).bind fun t217 => (some (!t217))) else (some false))) else (some false))) else (some false)) = some r := H
                      have A173 := Aside0.mk A1730
                      clear A1730
                      by_cases c174 : t214 = 1
                      · rw [if_pos c174] at H
                        have c174b0 : (t214 == 1) = true := beq_iff_eq.mpr c174
                        have c174b1 : (t214 != 1) = false := bne_eq_false_iff_eq.mpr c174
                        clear c174
                        replace H := Option.bind_eq_some_iff.mp H
                        obtain ⟨t215, A1750, H⟩ := H
                        replace H : (if t215 = 0 then ((box_Right.f t167 t168).bind fun t216 => (if t216 = true then ((box_Right.f 65 ([] : List (S43))).bind fun t217 => (some (!t217))) else (some false))) else (some false)) = some r := H
                        have A175 := Aside0.mk A1750
                        clear A1750
                        by_cases c176 : t215 = 0
                        · rw [if_pos c176] at H
                          have c176b0 : (t215 == 0) = true := beq_iff_eq.mpr c176
                          have c176b1 : (t215 != 0) = false := bne_eq_false_iff_eq.mpr c176
                          clear c176
                          replace H := Option.bind_eq_some_iff.mp H
                          obtain ⟨t216, A1770, H⟩ := H
                          replace H : (if t216 = true then ((box_Right.f 65 ([] : List (S43))).bind fun t217 => (some (!t217))) else (some false)) = some r := H
                          have A177 := Aside0.mk A1770
                          clear A1770
                          by_cases c178 : t216 = true
                          · subst c178
                            have H1 : ((box_Right.f 65 ([] : List (S43))).bind fun t217 => (some (!t217))) = some r := by rw [if_pos rfl] at H; exact H
                            clear H
                            have H := H1
                            clear H1
                            replace H := Option.bind_eq_some_iff.mp H
                            obtain ⟨t217, A1790, H⟩ := H
                            replace H : (some (!t217)) = some r := H
                            have A179 := Aside0.mk A1790
                            clear A1790
                            obtain rfl := Option.some.inj H
                            go_enter Try.func8, Try.ntmps8
                            try go_wp2_with (first | ((with_reducible refine gate_dst (N := 1) rfl ?_); (try (refine gate_guard (by rfl) ?_; dsimp only)); refine box_event ?hg (N := 1) ?hd (cs := #[.int .i64 0, .slice none 0 0]) (t := 24) ?hr ?_; (case hd => rfl); (case hg => rfl); (case hr => first | (go_simp; done) | (go_simp; rfl)); intro gb163 hg w180 hbox hb; have n0_ := Aside0.mk (bs_ hb); have n1_ := Aside0.mk (hbox); have n3_ := Aside0.mk ((ge_ hg : w.heap.size ≤ gb163)); clear HB; have HB := n0_; have BK163 := n1_; have GE163 := n3_; clear n0_ n1_ n3_; clear hb hbox hg; have ⟨hcz181_0, hcz181_1⟩ := cz2_ BK163.out; have ⟨hfz181_0, hfz181_1⟩ := fz2_ BK163.out) | ((with_reducible refine gate_dst (N := 21) rfl ?_); (try (refine gate_guard (by rfl) ?_; dsimp only)); refine Kd.R_lit (Kd.int .u32) _ 25 ?hg (N := 21) ?hd (xs := ([7, 8] : List Int)) (inner := [.int .u32 7, .int .u32 8]) (ok := fun _ => True) (okp := fun _ => True) ?hr ?hp (fun _ hk => hk) trivial (Below.refl _ _) (Nat.le_refl _) (by simp) ?_; (case hd => rfl); (case hg => rfl); (case hr => first | (go_simp; done) | (go_simp; rfl)); (case hp => exact (Reps.one (show Kd.M (Kd.int .u32) _ _ _ 7 [.int .u32 7] from rfl) (Reps.one (show Kd.M (Kd.int .u32) _ _ _ 8 [.int .u32 8] from rfl) (Reps.none _ _)))); intro v165 w182 ho183 hb hg_ hnew_; clear hg_ hnew_; (first | rw [← Ny164.out] at ho183 | (simp only [Int.reduceToNat] at ho183; rw [← Ny164.out] at ho183)); have n0_ := Aside0.mk (Kd.R_lower ho183 (below_size (by repeat (first | (with_reducible first | exact HB.out | apply below_alloc | apply pw_below_drewN | apply below_drew1 | refine below_set ?_ GE163.out) | exact HB.out)))); have n1_ := Aside0.mk (blk_below (g := gb163) (o := .cells #[.int .i64 1, .slice none 0 0] 24 (0, 0)) (bp2_ BK163.out) hb); have n2_ := Aside0.mk (bs_ hb); clear BK163 HB; have HO166 := n0_; have BK163 := n1_; have HB := n2_; clear n0_ n1_ n2_; clear hb ho183; obtain ⟨Ao184, co184, eo184⟩ := Kd.R_slice HO166.out; subst eo184) | ((with_reducible refine gate_callee (f := 12) rfl ?_); refine goesL_ (some 22) rfl rfl Try.func12 (by kernel_rfl) rfl #[.agg #[.int .i64 1, .slice none 0 0], .int .u32 9, .int .u32 5, .int .u32 2, .slice Ao184 y164.length co184] rfl (by (try simp only [List.map_toArray, List.map_cons, List.map_nil]); first | done | rfl | (simp only [List.length_drop, List.length_take]; rfl)) ?_; (refine (box_Seal.calls 1 (fun k_ => False) _ _ ([] : List (S43)) 9 5 2 _ _ y164 t167 t168 t171 _ ?side1 ?side2 ?side3 A1.out).mono ?_); (case side1 => exact Kd.V_nil _ _ _ _ _); (case side2 => repeat (first | exact (Kd.R_reads' HO166.out).2.2 | (with_reducible refine Kd.C_alloc ?_ _) | (with_reducible refine Kd.C_drewN ?_ _) | (with_reducible refine Kd.C_drew ?_))); (case side3 => exact (Kd.R_reads' HO166.out).2.1); rintro e w185 ⟨v169, rfl, ho0, hb⟩; refine ⟨_, rfl, ?_⟩; have n0_ := Aside0.mk (rb_ HO166.out hb); have n1_ := Aside0.mk (Kd.V_lower (Kd.V_mono (ok' := fun k_ => some k_ ≠ (.slice Ao184 y164.length co184 : Value).ownBlock ∧ k_ ≠ gb163) ho0 (fun k_ hk_ => ⟨Or.elim hk_ (fun hs_ => (hs_).elim) (fun hn_ => (Kd.fresh' (Kd.R_lt (by (with_reducible repeat (first | apply Kd.R_alloc | apply Kd.R_drewN | apply Kd.R_drew)); exact HO166.out)) k_ hn_)), Or.elim hk_ (fun hs_ => (hs_).elim) (fun hn_ => (fb_ BK163.out k_ hn_))⟩)) (below_size (by repeat (first | (with_reducible first | exact HB.out | apply below_alloc | apply pw_below_drewN | apply below_drew1 | refine below_set ?_ GE163.out) | exact HB.out)))); have n2_ := Aside0.mk (bb_ BK163.out hb); have n3_ := Aside0.mk (bs_ hb); clear HO166 BK163 HB; have HO166 := n0_; have HO170 := n1_; have BK163 := n2_; have HB := n3_; clear n0_ n1_ n2_ n3_; (try clear hb); (try clear hb2); (try clear hk); (try clear hi); (try clear ho0)) | ((with_reducible refine gate_dst (N := 2) rfl ?_); (try (refine gate_guard (by rfl) ?_; dsimp only)); refine box_event ?hg (N := 2) ?hd (cs := #[.int .i64 0, .slice none 0 0]) (t := 24) ?hr ?_; (case hd => rfl); (case hg => rfl); (case hr => first | (go_simp; done) | (go_simp; rfl)); intro gb172 hg w186 hbox hb; have n0_ := Aside0.mk (rb_ HO166.out hb); have n1_ := Aside0.mk (ve_ HO170.out gb172 hg hb); have n2_ := Aside0.mk (bb_ BK163.out hb); have n3_ := Aside0.mk (bs_ hb); have n4_ := Aside0.mk (hbox); have n6_ := Aside0.mk ((ge_ hg : w.heap.size ≤ gb172)); have n7_ := Aside0.mk ((by rw [hg]; exact Nat.ne_of_lt (blk_lt (g := gb163) (o := .cells #[.int .i64 1, .slice none 0 0] 24 (0, 0)) (by (with_reducible repeat (first | refine blk_drewN ?_ _ | refine blk_drew ?_ | refine blk_alloc ?_ _)); exact BK163.out)) : gb163 ≠ gb172)); have n8_ := Aside0.mk ((by rw [hg]; exact Nat.ne_of_gt (blk_lt (g := gb163) (o := .cells #[.int .i64 1, .slice none 0 0] 24 (0, 0)) (by (with_reducible repeat (first | refine blk_drewN ?_ _ | refine blk_drew ?_ | refine blk_alloc ?_ _)); exact BK163.out)) : gb172 ≠ gb163)); clear HO166 HO170 BK163 HB; have HO166 := n0_; have HO170 := n1_; have BK163 := n2_; have HB := n3_; have BK172 := n4_; have GE172 := n6_; have NB163_172 := n7_; have NB172_163 := n8_; clear n0_ n1_ n2_ n3_ n4_ n6_ n7_ n8_; clear hb hbox hg; have hnb187 := NB172_163.out; have hnc187 := NB163_172.out; have ⟨hcz188_0, hcz188_1⟩ := cz2_ BK172.out; have ⟨hfz188_0, hfz188_1⟩ := fz2_ BK172.out; obtain ⟨Ao189, co189, eo189⟩ := Kd.V_slice HO170.out; subst eo189) | ((with_reducible refine gate_store (t := 24) (p := 2) rfl ?_); refine store_event (t := 24) (p := 2) (v := ?vo_w190) (w1 := ((w186.setCell ⟨gb172, 0, none⟩ (.int .i64 t167)).setCell ⟨gb172, 1, none⟩ (.slice Ao189 t168.length co189))) ?hg ?ho ?hn ?hr ?_; (case ho => rfl); (case hg => rfl); (case hn => rfl); (case hr => first | (go_simp; done) | (go_simp; rfl)); intro w190 hw; have n0_ : Aside0 (Kd.R (Kd.int .u32) 25 w190 w.heap.size (fun _ => True) (.slice Ao184 y164.length co184) y164) := ⟨(by rw [hw]; exact (by (with_reducible repeat (first | apply Kd.R_alloc | apply Kd.R_drewN | apply Kd.R_drew)); exact Kd.R_mono (r2_ (g := gb172) (Kd.R_types HO166.out BK172.out (by decide))) (fun _ hk => trivial)))⟩; have n1_ : Aside0 (Kd.V k43 43 w190 w.heap.size (fun k_ => some k_ ≠ (.slice Ao184 y164.length co184 : Value).ownBlock ∧ k_ ≠ gb163 ∧ k_ ≠ gb172) (.slice Ao189 t168.length co189) t168) := ⟨(by rw [hw]; exact (by (with_reducible repeat (first | apply Kd.V_alloc | apply Kd.V_drewN | apply Kd.V_drew)); exact Kd.V_mono (v2_ (g := gb172) (Kd.V_mono HO170.out (fun k_ hk => (⟨hk, hk.2⟩ : _ ∧ k_ ≠ gb172)))) (fun _ hk => ⟨hk.1.1.1, ⟨hk.1.1.2, hk.1.2⟩⟩)))⟩; have n2_ : Aside0 (w190.heap[gb163]? = some (.cells #[.int .i64 1, .slice none 0 0] 24 (0, 0))) := ⟨(by rw [hw]; exact (bf2_ BK163.out NB163_172.out))⟩; have n3_ : Aside0 (w190.heap[gb172]? = some (.cells #[.int .i64 t167, .slice Ao189 t168.length co189] 24 (0, 0))) := ⟨(by rw [hw]; exact (bp2_ BK172.out))⟩; have n4_ : Aside0 (Below w.heap.size w w190) := ⟨(by rw [hw]; exact (by repeat (first | (with_reducible first | exact HB.out | apply below_alloc | apply pw_below_drewN | apply below_drew1 | refine below_set ?_ GE163.out | refine below_set ?_ GE172.out) | exact HB.out)))⟩; clear hw HO166 HO170 BK163 BK172 HB; have HO166 := n0_; have HO170 := n1_; have BK163 := n2_; have BK172 := n3_; have HB := n4_; clear n0_ n1_ n2_ n3_ n4_; have ⟨hcz191_0, hcz191_1⟩ := cz2_ BK172.out; have ⟨hfz191_0, hfz191_1⟩ := fz2_ BK172.out) | ((with_reducible refine gate_callee (f := 12) rfl ?_); refine goesL_ (some 27) rfl rfl Try.func12 (by kernel_rfl) rfl #[.agg #[.int .i64 t167, .slice Ao189 t168.length co189], .int .u32 9, .int .u32 5, .int .u32 2, .slice none 0 0] rfl (by (try simp only [List.map_toArray, List.map_cons, List.map_nil]); first | done | rfl | (simp only [List.length_drop, List.length_take]; rfl)) ?_; (refine (box_Seal.calls t167 (fun k_ => (some k_ ≠ (.slice Ao184 y164.length co184 : Value).ownBlock ∧ (k_ ≠ gb163 ∧ k_ ≠ gb172))) _ _ t168 9 5 2 _ _ ([] : List Int) t173 t174 t177 _ ?side1 ?side2 ?side3 A2.out).mono ?_); (case side1 => exact HO170.out); (case side2 => exact Kd.C_nil _ _); (case side3 => exact Nat.le_refl _); rintro e w192 ⟨v175, rfl, ho0, hb⟩; refine ⟨_, rfl, ?_⟩; have n0_ := Aside0.mk (rb_ HO166.out hb); have n1_ := Aside0.mk (vb_ HO170.out hb); have n2_ := Aside0.mk (Kd.V_lower (Kd.V_mono (ok' := fun k_ => some k_ ≠ (.slice Ao184 y164.length co184 : Value).ownBlock ∧ k_ ≠ gb163 ∧ k_ ≠ gb172) ho0 (fun k_ hk_ => ⟨Or.elim hk_ (fun hs_ => hs_.1) (fun hn_ => (Kd.fresh' (Kd.R_lt (by (with_reducible repeat (first | apply Kd.R_alloc | apply Kd.R_drewN | apply Kd.R_drew)); exact HO166.out)) k_ hn_)), Or.elim hk_ (fun hs_ => hs_.2.1) (fun hn_ => (fb_ BK163.out k_ hn_)), Or.elim hk_ (fun hs_ => hs_.2.2) (fun hn_ => (fb_ BK172.out k_ hn_))⟩)) (below_size (by repeat (first | (with_reducible first | exact HB.out | apply below_alloc | apply pw_below_drewN | apply below_drew1 | refine below_set ?_ GE163.out | refine below_set ?_ GE172.out) | exact HB.out)))); have n3_ := Aside0.mk (bb_ BK163.out hb); have n4_ := Aside0.mk (bb_ BK172.out hb); have n5_ := Aside0.mk (bs_ hb); clear HO166 HO170 BK163 BK172 HB; have HO166 := n0_; have HO170 := n1_; have HO176 := n2_; have BK163 := n3_; have BK172 := n4_; have HB := n5_; clear n0_ n1_ n2_ n3_ n4_ n5_; (try clear hb); (try clear hb2); (try clear hk); (try clear hi); (try clear ho0)) | ((with_reducible refine gate_dst (N := 4) rfl ?_); (try (refine gate_guard (by rfl) ?_; dsimp only)); refine box_event ?hg (N := 4) ?hd (cs := #[.int .i64 0, .slice none 0 0]) (t := 24) ?hr ?_; (case hd => rfl); (case hg => rfl); (case hr => first | (go_simp; done) | (go_simp; rfl)); intro gb178 hg w193 hbox hb; have n0_ := Aside0.mk (rb_ HO166.out hb); have n1_ := Aside0.mk (ve_ HO170.out gb178 hg hb); have n2_ := Aside0.mk (ve_ HO176.out gb178 hg hb); have n3_ := Aside0.mk (bb_ BK163.out hb); have n4_ := Aside0.mk (bb_ BK172.out hb); have n5_ := Aside0.mk (bs_ hb); have n6_ := Aside0.mk (hbox); have n8_ := Aside0.mk ((ge_ hg : w.heap.size ≤ gb178)); have n9_ := Aside0.mk ((by rw [hg]; exact Nat.ne_of_lt (blk_lt (g := gb163) (o := .cells #[.int .i64 1, .slice none 0 0] 24 (0, 0)) (by (with_reducible repeat (first | refine blk_drewN ?_ _ | refine blk_drew ?_ | refine blk_alloc ?_ _)); exact BK163.out)) : gb163 ≠ gb178)); have n10_ := Aside0.mk ((by rw [hg]; exact Nat.ne_of_gt (blk_lt (g := gb163) (o := .cells #[.int .i64 1, .slice none 0 0] 24 (0, 0)) (by (with_reducible repeat (first | refine blk_drewN ?_ _ | refine blk_drew ?_ | refine blk_alloc ?_ _)); exact BK163.out)) : gb178 ≠ gb163)); have n11_ := Aside0.mk ((by rw [hg]; exact Nat.ne_of_lt (blk_lt (g := gb172) (o := .cells #[.int .i64 t167, .slice Ao189 t168.length co189] 24 (0, 0)) (by (with_reducible repeat (first | refine blk_drewN ?_ _ | refine blk_drew ?_ | refine blk_alloc ?_ _)); exact BK172.out)) : gb172 ≠ gb178)); have n12_ := Aside0.mk ((by rw [hg]; exact Nat.ne_of_gt (blk_lt (g := gb172) (o := .cells #[.int .i64 t167, .slice Ao189 t168.length co189] 24 (0, 0)) (by (with_reducible repeat (first | refine blk_drewN ?_ _ | refine blk_drew ?_ | refine blk_alloc ?_ _)); exact BK172.out)) : gb178 ≠ gb172)); clear HO166 HO170 HO176 BK163 BK172 HB; have HO166 := n0_; have HO170 := n1_; have HO176 := n2_; have BK163 := n3_; have BK172 := n4_; have HB := n5_; have BK178 := n6_; have GE178 := n8_; have NB163_178 := n9_; have NB178_163 := n10_; have NB172_178 := n11_; have NB178_172 := n12_; clear n0_ n1_ n2_ n3_ n4_ n5_ n6_ n8_ n9_ n10_ n11_ n12_; clear hb hbox hg; have hnb194 := NB178_163.out; have hnc194 := NB163_178.out; have hnb195 := NB178_172.out; have hnc195 := NB172_178.out; have ⟨hcz196_0, hcz196_1⟩ := cz2_ BK178.out; have ⟨hfz196_0, hfz196_1⟩ := fz2_ BK178.out; obtain ⟨Ao197, co197, eo197⟩ := Kd.V_slice HO176.out; subst eo197) | ((with_reducible refine gate_store (t := 24) (p := 4) rfl ?_); refine store_event (t := 24) (p := 4) (v := ?vo_w198) (w1 := ((w193.setCell ⟨gb178, 0, none⟩ (.int .i64 t173)).setCell ⟨gb178, 1, none⟩ (.slice Ao197 t174.length co197))) ?hg ?ho ?hn ?hr ?_; (case ho => rfl); (case hg => rfl); (case hn => rfl); (case hr => first | (go_simp; done) | (go_simp; rfl)); intro w198 hw; have n0_ : Aside0 (Kd.R (Kd.int .u32) 25 w198 w.heap.size (fun _ => True) (.slice Ao184 y164.length co184) y164) := ⟨(by rw [hw]; exact (by (with_reducible repeat (first | apply Kd.R_alloc | apply Kd.R_drewN | apply Kd.R_drew)); exact Kd.R_mono (r2_ (g := gb178) (Kd.R_types HO166.out BK178.out (by decide))) (fun _ hk => trivial)))⟩; have n1_ : Aside0 (Kd.V k43 43 w198 w.heap.size (fun k_ => some k_ ≠ (.slice Ao184 y164.length co184 : Value).ownBlock ∧ k_ ≠ gb163 ∧ k_ ≠ gb172 ∧ k_ ≠ gb178) (.slice Ao189 t168.length co189) t168) := ⟨(by rw [hw]; exact (by (with_reducible repeat (first | apply Kd.V_alloc | apply Kd.V_drewN | apply Kd.V_drew)); exact Kd.V_mono (v2_ (g := gb178) (Kd.V_mono HO170.out (fun k_ hk => (⟨hk, hk.2⟩ : _ ∧ k_ ≠ gb178)))) (fun _ hk => ⟨hk.1.1.1, ⟨hk.1.1.2.1, ⟨hk.1.1.2.2, hk.1.2⟩⟩⟩)))⟩; have n2_ : Aside0 (Kd.V k43 43 w198 w.heap.size (fun k_ => some k_ ≠ (.slice Ao184 y164.length co184 : Value).ownBlock ∧ k_ ≠ gb163 ∧ k_ ≠ gb172 ∧ k_ ≠ gb178) (.slice Ao197 t174.length co197) t174) := ⟨(by rw [hw]; exact (by (with_reducible repeat (first | apply Kd.V_alloc | apply Kd.V_drewN | apply Kd.V_drew)); exact Kd.V_mono (v2_ (g := gb178) (Kd.V_mono HO176.out (fun k_ hk => (⟨hk, hk.2⟩ : _ ∧ k_ ≠ gb178)))) (fun _ hk => ⟨hk.1.1.1, ⟨hk.1.1.2.1, ⟨hk.1.1.2.2, hk.1.2⟩⟩⟩)))⟩; have n3_ : Aside0 (w198.heap[gb163]? = some (.cells #[.int .i64 1, .slice none 0 0] 24 (0, 0))) := ⟨(by rw [hw]; exact (bf2_ BK163.out NB163_178.out))⟩; have n4_ : Aside0 (w198.heap[gb172]? = some (.cells #[.int .i64 t167, .slice Ao189 t168.length co189] 24 (0, 0))) := ⟨(by rw [hw]; exact (bf2_ BK172.out NB172_178.out))⟩; have n5_ : Aside0 (w198.heap[gb178]? = some (.cells #[.int .i64 t173, .slice Ao197 t174.length co197] 24 (0, 0))) := ⟨(by rw [hw]; exact (bp2_ BK178.out))⟩; have n6_ : Aside0 (Below w.heap.size w w198) := ⟨(by rw [hw]; exact (by repeat (first | (with_reducible first | exact HB.out | apply below_alloc | apply pw_below_drewN | apply below_drew1 | refine below_set ?_ GE163.out | refine below_set ?_ GE172.out | refine below_set ?_ GE178.out) | exact HB.out)))⟩; clear hw HO166 HO170 HO176 BK163 BK172 BK178 HB; have HO166 := n0_; have HO170 := n1_; have HO176 := n2_; have BK163 := n3_; have BK172 := n4_; have BK178 := n5_; have HB := n6_; clear n0_ n1_ n2_ n3_ n4_ n5_ n6_; have ⟨hcz199_0, hcz199_1⟩ := cz2_ BK172.out; have ⟨hfz199_0, hfz199_1⟩ := fz2_ BK172.out) | ((with_reducible refine gate_callee (f := 12) rfl ?_); refine goesL_ (some 32) rfl rfl Try.func12 (by kernel_rfl) rfl #[.agg #[.int .i64 t167, .slice Ao189 t168.length co189], .int .u32 10, .int .u32 5, .int .u32 2, .slice none 0 0] rfl (by (try simp only [List.map_toArray, List.map_cons, List.map_nil]); first | done | rfl | (simp only [List.length_drop, List.length_take]; rfl)) ?_; (refine (box_Seal.calls t167 (fun k_ => (some k_ ≠ (.slice Ao184 y164.length co184 : Value).ownBlock ∧ (k_ ≠ gb163 ∧ (k_ ≠ gb172 ∧ k_ ≠ gb178)))) _ _ t168 10 5 2 _ _ ([] : List Int) t179 t180 t183 _ ?side1 ?side2 ?side3 A3.out).mono ?_); (case side1 => exact HO170.out); (case side2 => exact Kd.C_nil _ _); (case side3 => exact Nat.le_refl _); rintro e w200 ⟨v181, rfl, ho0, hb⟩; refine ⟨_, rfl, ?_⟩; have n0_ := Aside0.mk (rb_ HO166.out hb); have n1_ := Aside0.mk (vb_ HO170.out hb); have n2_ := Aside0.mk (vb_ HO176.out hb); have n3_ := Aside0.mk (Kd.V_lower (Kd.V_mono (ok' := fun k_ => some k_ ≠ (.slice Ao184 y164.length co184 : Value).ownBlock ∧ k_ ≠ gb163 ∧ k_ ≠ gb172 ∧ k_ ≠ gb178) ho0 (fun k_ hk_ => ⟨Or.elim hk_ (fun hs_ => hs_.1) (fun hn_ => (Kd.fresh' (Kd.R_lt (by (with_reducible repeat (first | apply Kd.R_alloc | apply Kd.R_drewN | apply Kd.R_drew)); exact HO166.out)) k_ hn_)), Or.elim hk_ (fun hs_ => hs_.2.1) (fun hn_ => (fb_ BK163.out k_ hn_)), Or.elim hk_ (fun hs_ => hs_.2.2.1) (fun hn_ => (fb_ BK172.out k_ hn_)), Or.elim hk_ (fun hs_ => hs_.2.2.2) (fun hn_ => (fb_ BK178.out k_ hn_))⟩)) (below_size (by repeat (first | (with_reducible first | exact HB.out | apply below_alloc | apply pw_below_drewN | apply below_drew1 | refine below_set ?_ GE163.out | refine below_set ?_ GE172.out | refine below_set ?_ GE178.out) | exact HB.out)))); have n4_ := Aside0.mk (bb_ BK163.out hb); have n5_ := Aside0.mk (bb_ BK172.out hb); have n6_ := Aside0.mk (bb_ BK178.out hb); have n7_ := Aside0.mk (bs_ hb); clear HO166 HO170 HO176 BK163 BK172 BK178 HB; have HO166 := n0_; have HO170 := n1_; have HO176 := n2_; have HO182 := n3_; have BK163 := n4_; have BK172 := n5_; have BK178 := n6_; have HB := n7_; clear n0_ n1_ n2_ n3_ n4_ n5_ n6_ n7_; (try clear hb); (try clear hb2); (try clear hk); (try clear hi); (try clear ho0)) | ((with_reducible refine gate_dst (N := 6) rfl ?_); (try (refine gate_guard (by rfl) ?_; dsimp only)); refine box_event ?hg (N := 6) ?hd (cs := #[.int .i64 0, .slice none 0 0]) (t := 24) ?hr ?_; (case hd => rfl); (case hg => rfl); (case hr => first | (go_simp; done) | (go_simp; rfl)); intro gb184 hg w201 hbox hb; have n0_ := Aside0.mk (rb_ HO166.out hb); have n1_ := Aside0.mk (ve_ HO170.out gb184 hg hb); have n2_ := Aside0.mk (ve_ HO176.out gb184 hg hb); have n3_ := Aside0.mk (ve_ HO182.out gb184 hg hb); have n4_ := Aside0.mk (bb_ BK163.out hb); have n5_ := Aside0.mk (bb_ BK172.out hb); have n6_ := Aside0.mk (bb_ BK178.out hb); have n7_ := Aside0.mk (bs_ hb); have n8_ := Aside0.mk (hbox); have n10_ := Aside0.mk ((ge_ hg : w.heap.size ≤ gb184)); have n11_ := Aside0.mk ((by rw [hg]; exact Nat.ne_of_lt (blk_lt (g := gb163) (o := .cells #[.int .i64 1, .slice none 0 0] 24 (0, 0)) (by (with_reducible repeat (first | refine blk_drewN ?_ _ | refine blk_drew ?_ | refine blk_alloc ?_ _)); exact BK163.out)) : gb163 ≠ gb184)); have n12_ := Aside0.mk ((by rw [hg]; exact Nat.ne_of_gt (blk_lt (g := gb163) (o := .cells #[.int .i64 1, .slice none 0 0] 24 (0, 0)) (by (with_reducible repeat (first | refine blk_drewN ?_ _ | refine blk_drew ?_ | refine blk_alloc ?_ _)); exact BK163.out)) : gb184 ≠ gb163)); have n13_ := Aside0.mk ((by rw [hg]; exact Nat.ne_of_lt (blk_lt (g := gb172) (o := .cells #[.int .i64 t167, .slice Ao189 t168.length co189] 24 (0, 0)) (by (with_reducible repeat (first | refine blk_drewN ?_ _ | refine blk_drew ?_ | refine blk_alloc ?_ _)); exact BK172.out)) : gb172 ≠ gb184)); have n14_ := Aside0.mk ((by rw [hg]; exact Nat.ne_of_gt (blk_lt (g := gb172) (o := .cells #[.int .i64 t167, .slice Ao189 t168.length co189] 24 (0, 0)) (by (with_reducible repeat (first | refine blk_drewN ?_ _ | refine blk_drew ?_ | refine blk_alloc ?_ _)); exact BK172.out)) : gb184 ≠ gb172)); have n15_ := Aside0.mk ((by rw [hg]; exact Nat.ne_of_lt (blk_lt (g := gb178) (o := .cells #[.int .i64 t173, .slice Ao197 t174.length co197] 24 (0, 0)) (by (with_reducible repeat (first | refine blk_drewN ?_ _ | refine blk_drew ?_ | refine blk_alloc ?_ _)); exact BK178.out)) : gb178 ≠ gb184)); have n16_ := Aside0.mk ((by rw [hg]; exact Nat.ne_of_gt (blk_lt (g := gb178) (o := .cells #[.int .i64 t173, .slice Ao197 t174.length co197] 24 (0, 0)) (by (with_reducible repeat (first | refine blk_drewN ?_ _ | refine blk_drew ?_ | refine blk_alloc ?_ _)); exact BK178.out)) : gb184 ≠ gb178)); clear HO166 HO170 HO176 HO182 BK163 BK172 BK178 HB; have HO166 := n0_; have HO170 := n1_; have HO176 := n2_; have HO182 := n3_; have BK163 := n4_; have BK172 := n5_; have BK178 := n6_; have HB := n7_; have BK184 := n8_; have GE184 := n10_; have NB163_184 := n11_; have NB184_163 := n12_; have NB172_184 := n13_; have NB184_172 := n14_; have NB178_184 := n15_; have NB184_178 := n16_; clear n0_ n1_ n2_ n3_ n4_ n5_ n6_ n7_ n8_ n10_ n11_ n12_ n13_ n14_ n15_ n16_; clear hb hbox hg; have hnb202 := NB184_163.out; have hnc202 := NB163_184.out; have hnb203 := NB184_172.out; have hnc203 := NB172_184.out; have hnb204 := NB184_178.out; have hnc204 := NB178_184.out; have ⟨hcz205_0, hcz205_1⟩ := cz2_ BK184.out; have ⟨hfz205_0, hfz205_1⟩ := fz2_ BK184.out; obtain ⟨Ao206, co206, eo206⟩ := Kd.V_slice HO182.out; subst eo206))
                            have n0_ : Aside0 (Kd.R (Kd.int .u32) 25 ((w201.setCell ⟨gb184, 0, none⟩ (.int .i64 t179)).setCell ⟨gb184, 1, none⟩ (.slice Ao206 t180.length co206)) w.heap.size (fun _ => True) (.slice Ao184 y164.length co184) y164) := ⟨by (with_reducible repeat (first | apply Kd.R_alloc | apply Kd.R_drewN | apply Kd.R_drew)); exact Kd.R_mono (r2_ (g := gb184) (Kd.R_types HO166.out BK184.out (by decide))) (fun _ hk => trivial)⟩
                            have n1_ : Aside0 (Kd.V k43 43 ((w201.setCell ⟨gb184, 0, none⟩ (.int .i64 t179)).setCell ⟨gb184, 1, none⟩ (.slice Ao206 t180.length co206)) w.heap.size (fun k_ => some k_ ≠ (.slice Ao184 y164.length co184 : Value).ownBlock ∧ k_ ≠ gb163 ∧ k_ ≠ gb172 ∧ k_ ≠ gb178 ∧ k_ ≠ gb184) (.slice Ao189 t168.length co189) t168) := ⟨by (with_reducible repeat (first | apply Kd.V_alloc | apply Kd.V_drewN | apply Kd.V_drew)); exact Kd.V_mono (v2_ (g := gb184) (Kd.V_mono HO170.out (fun k_ hk => (⟨hk, hk.2⟩ : _ ∧ k_ ≠ gb184)))) (fun _ hk => ⟨hk.1.1.1, ⟨hk.1.1.2.1, ⟨hk.1.1.2.2.1, ⟨hk.1.1.2.2.2, hk.1.2⟩⟩⟩⟩)⟩
                            have n2_ : Aside0 (Kd.V k43 43 ((w201.setCell ⟨gb184, 0, none⟩ (.int .i64 t179)).setCell ⟨gb184, 1, none⟩ (.slice Ao206 t180.length co206)) w.heap.size (fun k_ => some k_ ≠ (.slice Ao184 y164.length co184 : Value).ownBlock ∧ k_ ≠ gb163 ∧ k_ ≠ gb172 ∧ k_ ≠ gb178 ∧ k_ ≠ gb184) (.slice Ao197 t174.length co197) t174) := ⟨by (with_reducible repeat (first | apply Kd.V_alloc | apply Kd.V_drewN | apply Kd.V_drew)); exact Kd.V_mono (v2_ (g := gb184) (Kd.V_mono HO176.out (fun k_ hk => (⟨hk, hk.2⟩ : _ ∧ k_ ≠ gb184)))) (fun _ hk => ⟨hk.1.1.1, ⟨hk.1.1.2.1, ⟨hk.1.1.2.2.1, ⟨hk.1.1.2.2.2, hk.1.2⟩⟩⟩⟩)⟩
                            have n3_ : Aside0 (Kd.V k43 43 ((w201.setCell ⟨gb184, 0, none⟩ (.int .i64 t179)).setCell ⟨gb184, 1, none⟩ (.slice Ao206 t180.length co206)) w.heap.size (fun k_ => some k_ ≠ (.slice Ao184 y164.length co184 : Value).ownBlock ∧ k_ ≠ gb163 ∧ k_ ≠ gb172 ∧ k_ ≠ gb178 ∧ k_ ≠ gb184) (.slice Ao206 t180.length co206) t180) := ⟨by (with_reducible repeat (first | apply Kd.V_alloc | apply Kd.V_drewN | apply Kd.V_drew)); exact Kd.V_mono (v2_ (g := gb184) (Kd.V_mono HO182.out (fun k_ hk => (⟨hk, hk.2⟩ : _ ∧ k_ ≠ gb184)))) (fun _ hk => ⟨hk.1.1.1, ⟨hk.1.1.2.1, ⟨hk.1.1.2.2.1, ⟨hk.1.1.2.2.2, hk.1.2⟩⟩⟩⟩)⟩
                            have n4_ : Aside0 (((w201.setCell ⟨gb184, 0, none⟩ (.int .i64 t179)).setCell ⟨gb184, 1, none⟩ (.slice Ao206 t180.length co206)).heap[gb163]? = some (.cells #[.int .i64 1, .slice none 0 0] 24 (0, 0))) := ⟨by (with_reducible repeat (first | refine blk_drewN ?_ _ | refine blk_drew ?_ | refine blk_alloc ?_ _)); refine blk_far ?_ NB163_184.out _; (with_reducible repeat (first | refine blk_drewN ?_ _ | refine blk_drew ?_ | refine blk_alloc ?_ _)); refine blk_far ?_ NB163_184.out _; (with_reducible repeat (first | refine blk_drewN ?_ _ | refine blk_drew ?_ | refine blk_alloc ?_ _)); exact BK163.out⟩
                            have n5_ : Aside0 (((w201.setCell ⟨gb184, 0, none⟩ (.int .i64 t179)).setCell ⟨gb184, 1, none⟩ (.slice Ao206 t180.length co206)).heap[gb172]? = some (.cells #[.int .i64 t167, .slice Ao189 t168.length co189] 24 (0, 0))) := ⟨by (with_reducible repeat (first | refine blk_drewN ?_ _ | refine blk_drew ?_ | refine blk_alloc ?_ _)); refine blk_far ?_ NB172_184.out _; (with_reducible repeat (first | refine blk_drewN ?_ _ | refine blk_drew ?_ | refine blk_alloc ?_ _)); refine blk_far ?_ NB172_184.out _; (with_reducible repeat (first | refine blk_drewN ?_ _ | refine blk_drew ?_ | refine blk_alloc ?_ _)); exact BK172.out⟩
                            have n6_ : Aside0 (((w201.setCell ⟨gb184, 0, none⟩ (.int .i64 t179)).setCell ⟨gb184, 1, none⟩ (.slice Ao206 t180.length co206)).heap[gb178]? = some (.cells #[.int .i64 t173, .slice Ao197 t174.length co197] 24 (0, 0))) := ⟨by (with_reducible repeat (first | refine blk_drewN ?_ _ | refine blk_drew ?_ | refine blk_alloc ?_ _)); refine blk_far ?_ NB178_184.out _; (with_reducible repeat (first | refine blk_drewN ?_ _ | refine blk_drew ?_ | refine blk_alloc ?_ _)); refine blk_far ?_ NB178_184.out _; (with_reducible repeat (first | refine blk_drewN ?_ _ | refine blk_drew ?_ | refine blk_alloc ?_ _)); exact BK178.out⟩
                            have n7_ : Aside0 (((w201.setCell ⟨gb184, 0, none⟩ (.int .i64 t179)).setCell ⟨gb184, 1, none⟩ (.slice Ao206 t180.length co206)).heap[gb184]? = some (.cells #[.int .i64 t179, .slice Ao206 t180.length co206] 24 (0, 0))) := ⟨by (with_reducible repeat (first | refine blk_drewN ?_ _ | refine blk_drew ?_ | refine blk_alloc ?_ _)); refine blk_put (cs := #[.int .i64 t179, .slice none 0 0]) ?_ 1 _ rfl; (with_reducible repeat (first | refine blk_drewN ?_ _ | refine blk_drew ?_ | refine blk_alloc ?_ _)); refine blk_put (cs := #[.int .i64 0, .slice none 0 0]) ?_ 0 _ rfl; (with_reducible repeat (first | refine blk_drewN ?_ _ | refine blk_drew ?_ | refine blk_alloc ?_ _)); exact BK184.out⟩
                            have n8_ : Aside0 (Below w.heap.size w ((w201.setCell ⟨gb184, 0, none⟩ (.int .i64 t179)).setCell ⟨gb184, 1, none⟩ (.slice Ao206 t180.length co206))) := ⟨by repeat (first | (with_reducible first | exact HB.out | apply below_alloc | apply pw_below_drewN | apply below_drew1 | refine below_set ?_ GE163.out | refine below_set ?_ GE172.out | refine below_set ?_ GE178.out | refine below_set ?_ GE184.out) | exact HB.out)⟩
                            (try clear HO166)
                            (try clear HO170)
                            (try clear HO176)
                            (try clear HO182)
                            (try clear BK163)
                            (try clear BK172)
                            (try clear BK178)
                            (try clear BK184)
                            (try clear HB)
                            generalize ((w201.setCell ⟨gb184, 0, none⟩ (.int .i64 t179)).setCell ⟨gb184, 1, none⟩ (.slice Ao206 t180.length co206)) = w207 at n0_ n1_ n2_ n3_ n4_ n5_ n6_ n7_ n8_ ⊢
                            have HO166 := n0_
                            have HO170 := n1_
                            have HO176 := n2_
                            have HO182 := n3_
                            have BK163 := n4_
                            have BK172 := n5_
                            have BK178 := n6_
                            have BK184 := n7_
                            have HB := n8_
                            clear n0_ n1_ n2_ n3_ n4_ n5_ n6_ n7_ n8_
                            have n0_ := Aside0.mk (Kd.R_drew HO166.out)
                            have n1_ := Aside0.mk (Kd.V_drew HO170.out)
                            have n2_ := Aside0.mk (Kd.V_drew HO176.out)
                            have n3_ := Aside0.mk (Kd.V_drew HO182.out)
                            have n4_ := Aside0.mk (blk_drew BK163.out)
                            have n5_ := Aside0.mk (blk_drew BK172.out)
                            have n6_ := Aside0.mk (blk_drew BK178.out)
                            have n7_ := Aside0.mk (blk_drew BK184.out)
                            have n8_ := Aside0.mk (below_drew1 HB.out)
                            clear HO166 HO170 HO176 HO182 BK163 BK172 BK178 BK184 HB
                            have HO166 := n0_
                            have HO170 := n1_
                            have HO176 := n2_
                            have HO182 := n3_
                            have BK163 := n4_
                            have BK172 := n5_
                            have BK178 := n6_
                            have BK184 := n7_
                            have HB := n8_
                            clear n0_ n1_ n2_ n3_ n4_ n5_ n6_ n7_ n8_
                            refine start_ (n := 9) (S := fun w' => w'.cell? ⟨gb172, 0, none⟩ = some (.int .i64 t167) ∧ w'.cell? ⟨gb172, 1, none⟩ = some (.slice Ao189 t168.length co189)) (ds := []) #[false, false, false, false, false, false, false, false, false] (by kernel_rfl) rfl rfl ⟨(blk_cell BK172.out 0).trans rfl, (blk_cell BK172.out 1).trans rfl⟩ (fun hHeld => ?_); refine with_tabW chamberlainlaw07_awake.tab5 chamberlainlaw07_awake.bits5 (fun HT_ HW_ => ?_)
                            generalize w207.drew = w208 at HO166 HO170 HO176 HO182 BK163 BK172 BK178 BK184 HB hHeld ⊢
                            refine take_ (i := 0) (N := some 36) (v := ?_) (a' := ?_) #[true, false, false, false, false, false, false, false, false] rfl rfl (take_ofW HT_.out HW_.out (by kernel_rfl)) (fun _ _ _ h => h) (Or.inl ⟨by rfl, ?_⟩) hHeld ?_ ?_
                            rotate_left
                            · rintro w' ⟨s0, s1⟩
                              go_simp
                              with_reducible rfl
                            rotate_left
                            · simp only [Act.put, List.setIfInBounds_toArray, List.set_cons_zero, List.set_cons_succ, i64_w, i32_w]
                              rfl
                            refine join_ (σ := Value × Value × Nat) 2 #[true, true, true, true, true, true, true, false, false] (fun s_ => [(37, s_.1), (38, .tuple #[.agg #[.int .i64 t188, s_.2.1], .int .i64 t192]), (8, .pointer (some ⟨s_.2.2, 0, none⟩)), (35, .tuple #[.agg #[.int .i64 t188, s_.2.1], .int .i64 t192]), (39, .agg #[.int .i64 t188, s_.2.1]), (40, .int .i64 t192)]) (fun s_ w' => (w'.cell? ⟨gb172, 0, none⟩ = some (.int .i64 t167) ∧ w'.cell? ⟨gb172, 1, none⟩ = some (.slice Ao189 t168.length co189)) ∧ (Kd.R (Kd.int .u32) 25 w' w.heap.size (fun k_ => some k_ ≠ (s_.1 : Value).ownBlock) (.slice Ao184 y164.length co184) y164) ∧ (Kd.V k43 43 w' w.heap.size (fun k_ => some k_ ≠ (.slice Ao184 y164.length co184 : Value).ownBlock ∧ some k_ ≠ (s_.1 : Value).ownBlock ∧ k_ ≠ gb163 ∧ k_ ≠ gb172 ∧ k_ ≠ gb178 ∧ k_ ≠ gb184 ∧ k_ ≠ s_.2.2) (.slice Ao189 t168.length co189) t168) ∧ (Kd.V k43 43 w' w.heap.size (fun k_ => some k_ ≠ (.slice Ao184 y164.length co184 : Value).ownBlock ∧ some k_ ≠ (s_.1 : Value).ownBlock ∧ k_ ≠ gb163 ∧ k_ ≠ gb172 ∧ k_ ≠ gb178 ∧ k_ ≠ gb184 ∧ k_ ≠ s_.2.2) (.slice Ao197 t174.length co197) t174) ∧ (Kd.V k43 43 w' w.heap.size (fun k_ => some k_ ≠ (.slice Ao184 y164.length co184 : Value).ownBlock ∧ some k_ ≠ (s_.1 : Value).ownBlock ∧ k_ ≠ gb163 ∧ k_ ≠ gb172 ∧ k_ ≠ gb178 ∧ k_ ≠ gb184 ∧ k_ ≠ s_.2.2) (.slice Ao206 t180.length co206) t180) ∧ (Kd.R (Kd.int .u32) 25 w' w.heap.size (fun k_ => some k_ ≠ (.slice Ao184 y164.length co184 : Value).ownBlock) s_.1 y185) ∧ (Kd.V k43 43 w' w.heap.size (fun k_ => some k_ ≠ (.slice Ao184 y164.length co184 : Value).ownBlock ∧ some k_ ≠ (s_.1 : Value).ownBlock ∧ k_ ≠ gb163 ∧ k_ ≠ gb172 ∧ k_ ≠ gb178 ∧ k_ ≠ gb184 ∧ k_ ≠ s_.2.2) s_.2.1 t189) ∧ (w'.heap[gb163]? = some (.cells #[.int .i64 1, .slice none 0 0] 24 (0, 0))) ∧ (w'.heap[gb172]? = some (.cells #[.int .i64 t167, .slice Ao189 t168.length co189] 24 (0, 0))) ∧ (w'.heap[gb178]? = some (.cells #[.int .i64 t173, .slice Ao197 t174.length co197] 24 (0, 0))) ∧ (w'.heap[gb184]? = some (.cells #[.int .i64 t179, .slice Ao206 t180.length co206] 24 (0, 0))) ∧ (w'.heap[s_.2.2]? = some (.cells #[.int .i64 0, .slice none 0 0] 24 (0, 0))) ∧ (w.heap.size ≤ s_.2.2) ∧ (w.heap.size ≤ s_.2.2) ∧ (gb163 ≠ s_.2.2) ∧ (s_.2.2 ≠ gb163) ∧ (gb172 ≠ s_.2.2) ∧ (s_.2.2 ≠ gb172) ∧ (gb178 ≠ s_.2.2) ∧ (s_.2.2 ≠ gb178) ∧ (gb184 ≠ s_.2.2) ∧ (s_.2.2 ≠ gb184) ∧ (Below w.heap.size w w')) ?_ ?_
                            rotate_left
                            · intro hCont
                              refine two_ (i := 1) (j := 6) (Ni := some 37) (Nj := some 8) #[true, true, false, false, false, false, false, false, false] #[true, false, false, false, false, false, true, false, false] rfl rfl rfl rfl (two_of HT_.out (by kernel_rfl)) (by decide) (by decide) (fun K hK => ?_) (fun K hK => ?_)
                              · skip
                                refine Kd.R_make_step (Kd.int .u32) _ 25 (by rfl) (N := 37) rfl 26 _ _ rfl 65 rfl rfl Try.underlying26 (.int .u32 0) 4 info25 rfl (by decide) (by omega) 0 (ok := fun _ => True) (okp := fun _ => True) rfl (fun _ hk => hk) trivial (by omega) (by omega) (Below.refl _ _) (Nat.le_refl _) ?_
                                intro v186 w209 ho210 hb hg_ hnew_
                                clear hg_ hnew_
                                (first | rw [← Ny185.out] at ho210 | (simp only [Int.reduceToNat] at ho210; rw [← Ny185.out] at ho210))
                                have n0_ := Aside0.mk (rf_ HO166.out (Kd.R_base ho210) hb)
                                have n1_ := Aside0.mk (vf_ HO170.out (Kd.R_base ho210) hb)
                                have n2_ := Aside0.mk (vf_ HO176.out (Kd.R_base ho210) hb)
                                have n3_ := Aside0.mk (vf_ HO182.out (Kd.R_base ho210) hb)
                                have n4_ := Aside0.mk (Kd.R_lower (Kd.R_new' ho210 (Kd.R_lt (by (with_reducible repeat (first | apply Kd.R_alloc | apply Kd.R_drewN | apply Kd.R_drew)); exact HO166.out))) (below_size (by repeat (first | (with_reducible first | exact HB.out | apply below_alloc | apply pw_below_drewN | apply below_drew1 | refine below_set ?_ GE163.out | refine below_set ?_ GE172.out | refine below_set ?_ GE178.out | refine below_set ?_ GE184.out) | exact HB.out))))
                                have n5_ := Aside0.mk (bb_ BK163.out hb)
                                have n6_ := Aside0.mk (bb_ BK172.out hb)
                                have n7_ := Aside0.mk (bb_ BK178.out hb)
                                have n8_ := Aside0.mk (bb_ BK184.out hb)
                                have n9_ := Aside0.mk (bs_ hb)
                                clear HO166 HO170 HO176 HO182 BK163 BK172 BK178 BK184 HB
                                have HO166 := n0_
                                have HO170 := n1_
                                have HO176 := n2_
                                have HO182 := n3_
                                have HO187 := n4_
                                have BK163 := n5_
                                have BK172 := n6_
                                have BK178 := n7_
                                have BK184 := n8_
                                have HB := n9_
                                clear n0_ n1_ n2_ n3_ n4_ n5_ n6_ n7_ n8_ n9_
                                clear hb ho210
                                obtain ⟨Ao211, co211, eo211⟩ := Kd.R_slice HO187.out
                                (first | subst eo211 | (injection eo211 with f1_ f2_ f3_; have f4_ := f1_.symm; have f5_ := f3_.symm; clear f1_ f2_ f3_; subst f4_; subst f5_))
                                refine hK.out _ _ ⟨(blk_cell BK172.out 0).trans rfl, (blk_cell BK172.out 1).trans rfl⟩ (fun hHeld => ?_)
                                clear hK K
                                refine norm_ (a' := ?_) ?_ ?_
                                rotate_left
                                · show Act.put _ (some 37) _ = _
                                  simp only [Act.put, List.setIfInBounds_toArray, List.set_cons_zero, List.set_cons_succ, i64_w, i32_w]
                                  rfl
                                refine two_ (i := 2) (j := 6) (Ni := some 38) (Nj := some 8) #[true, true, true, false, false, false, false, false, false] #[true, true, false, false, false, false, true, false, false] rfl rfl rfl rfl (two_of HT_.out (by kernel_rfl)) (by decide) (by decide) (fun K hK => ?_) (fun K hK => ?_)
                                · skip
                                  refine goes_ Try.func12 (by kernel_rfl) rfl #[.agg #[.int .i64 t167, .slice Ao189 t168.length co189], .int .u32 9, .int .u32 5, .int .u32 2, .slice Ao211 y185.length co211] (by rfl) rfl rfl (by (try simp only [List.map_toArray, List.map_cons, List.map_nil]); first | done | rfl | (simp only [List.length_drop, List.length_take]; rfl)) ?_
                                  with_reducible refine (box_Seal.calls t167 (fun k_ => ((some k_ ≠ (.slice Ao184 y164.length co184 : Value).ownBlock ∧ (k_ ≠ gb163 ∧ (k_ ≠ gb172 ∧ (k_ ≠ gb178 ∧ k_ ≠ gb184)))) ∧ some k_ ≠ (.slice Ao211 y185.length co211 : Value).ownBlock)) _ _ t168 9 5 2 _ _ y185 t188 t189 t192 _ ?side1 ?side2 ?side3 A5.out).mono ?_
                                  (case side1 => exact HO170.out)
                                  (case side2 => repeat (first | exact (Kd.R_reads' HO187.out).2.2 | (with_reducible refine Kd.C_alloc ?_ _) | (with_reducible refine Kd.C_drewN ?_ _) | (with_reducible refine Kd.C_drew ?_)))
                                  (case side3 => exact (Kd.R_reads' HO187.out).2.1)
                                  rintro e w212 ⟨v190, rfl, ho0, hb⟩
                                  refine ⟨_, rfl, ?_⟩
                                  have n0_ := Aside0.mk (rb_ HO166.out hb)
                                  have n1_ := Aside0.mk (vb_ HO170.out hb)
                                  have n2_ := Aside0.mk (vb_ HO176.out hb)
                                  have n3_ := Aside0.mk (vb_ HO182.out hb)
                                  have n4_ := Aside0.mk (rb_ HO187.out hb)
                                  have n5_ := Aside0.mk (Kd.V_lower (Kd.V_mono (ok' := fun k_ => some k_ ≠ (.slice Ao184 y164.length co184 : Value).ownBlock ∧ some k_ ≠ (.slice Ao211 y185.length co211 : Value).ownBlock ∧ k_ ≠ gb163 ∧ k_ ≠ gb172 ∧ k_ ≠ gb178 ∧ k_ ≠ gb184) ho0 (fun k_ hk_ => ⟨Or.elim hk_ (fun hs_ => hs_.1.1) (fun hn_ => (Kd.fresh' (Kd.R_lt (by (with_reducible repeat (first | apply Kd.R_alloc | apply Kd.R_drewN | apply Kd.R_drew)); exact HO166.out)) k_ hn_)), Or.elim hk_ (fun hs_ => hs_.2) (fun hn_ => (Kd.fresh' (Kd.R_lt (by (with_reducible repeat (first | apply Kd.R_alloc | apply Kd.R_drewN | apply Kd.R_drew)); exact HO187.out)) k_ hn_)), Or.elim hk_ (fun hs_ => hs_.1.2.1) (fun hn_ => (fb_ BK163.out k_ hn_)), Or.elim hk_ (fun hs_ => hs_.1.2.2.1) (fun hn_ => (fb_ BK172.out k_ hn_)), Or.elim hk_ (fun hs_ => hs_.1.2.2.2.1) (fun hn_ => (fb_ BK178.out k_ hn_)), Or.elim hk_ (fun hs_ => hs_.1.2.2.2.2) (fun hn_ => (fb_ BK184.out k_ hn_))⟩)) (below_size (by repeat (first | (with_reducible first | exact HB.out | apply below_alloc | apply pw_below_drewN | apply below_drew1 | refine below_set ?_ GE163.out | refine below_set ?_ GE172.out | refine below_set ?_ GE178.out | refine below_set ?_ GE184.out) | exact HB.out))))
                                  have n6_ := Aside0.mk (bb_ BK163.out hb)
                                  have n7_ := Aside0.mk (bb_ BK172.out hb)
                                  have n8_ := Aside0.mk (bb_ BK178.out hb)
                                  have n9_ := Aside0.mk (bb_ BK184.out hb)
                                  have n10_ := Aside0.mk (bs_ hb)
                                  clear HO166 HO170 HO176 HO182 HO187 BK163 BK172 BK178 BK184 HB
                                  have HO166 := n0_
                                  have HO170 := n1_
                                  have HO176 := n2_
                                  have HO182 := n3_
                                  have HO187 := n4_
                                  have HO191 := n5_
                                  have BK163 := n6_
                                  have BK172 := n7_
                                  have BK178 := n8_
                                  have BK184 := n9_
                                  have HB := n10_
                                  clear n0_ n1_ n2_ n3_ n4_ n5_ n6_ n7_ n8_ n9_ n10_
                                  (try clear hb)
                                  (try clear hb2)
                                  (try clear hk)
                                  (try clear hi)
                                  (try clear ho0)
                                  refine hK.out _ _ ⟨(blk_cell BK172.out 0).trans rfl, (blk_cell BK172.out 1).trans rfl⟩ (fun hHeld => ?_)
                                  clear hK K
                                  refine norm_ (a' := ?_) ?_ ?_
                                  rotate_left
                                  · show Act.put _ (some 38) _ = _
                                    simp only [Act.put, List.setIfInBounds_toArray, List.set_cons_zero, List.set_cons_succ, i64_w, i32_w]
                                    rfl
                                  refine pure_ (i := 3) (N := some 35) (v := ?_) (a' := ?_) #[true, true, true, true, false, false, false, false, false] rfl rfl (any_of HT_.out (by kernel_rfl)) (fun _ _ _ h => h) (Or.inl ⟨by rfl, ?_⟩) ?_ ?_
                                  rotate_left
                                  · intro w'
                                    go_simp
                                    with_reducible rfl
                                  rotate_left
                                  · simp only [Act.put, List.setIfInBounds_toArray, List.set_cons_zero, List.set_cons_succ, i64_w, i32_w]
                                    rfl
                                  refine pure_ (i := 4) (N := some 39) (v := ?_) (a' := ?_) #[true, true, true, true, true, false, false, false, false] rfl rfl (any_of HT_.out (by kernel_rfl)) (fun _ _ _ h => h) (Or.inl ⟨by rfl, ?_⟩) ?_ ?_
                                  rotate_left
                                  · intro w'
                                    go_simp
                                    with_reducible rfl
                                  rotate_left
                                  · simp only [Act.put, List.setIfInBounds_toArray, List.set_cons_zero, List.set_cons_succ, i64_w, i32_w]
                                    rfl
                                  refine pure_ (i := 5) (N := some 40) (v := ?_) (a' := ?_) #[true, true, true, true, true, true, false, false, false] rfl rfl (any_of HT_.out (by kernel_rfl)) (fun _ _ _ h => h) (Or.inl ⟨by rfl, ?_⟩) ?_ ?_
                                  rotate_left
                                  · intro w'
                                    go_simp
                                    with_reducible rfl
                                  rotate_left
                                  · simp only [Act.put, List.setIfInBounds_toArray, List.set_cons_zero, List.set_cons_succ, i64_w, i32_w]
                                    rfl
                                  refine one_ (i := 6) (N := some 8) #[true, true, true, true, true, true, true, false, false] rfl rfl (one_of HT_.out (by kernel_rfl)) (by decide) (fun K hK => ?_)
                                  refine box_step ?hg (N := 8) ?hd (cs := #[.int .i64 0, .slice none 0 0]) (t := 24) ?hr ?_; (case hd => rfl); (case hg => rfl); (case hr => first | (go_simp; done) | (go_simp; rfl))
                                  intro gb193 hg w213 hbox hb
                                  have n0_ := Aside0.mk (rb_ HO166.out hb)
                                  have n1_ := Aside0.mk (ve_ HO170.out gb193 hg hb)
                                  have n2_ := Aside0.mk (ve_ HO176.out gb193 hg hb)
                                  have n3_ := Aside0.mk (ve_ HO182.out gb193 hg hb)
                                  have n4_ := Aside0.mk (rb_ HO187.out hb)
                                  have n5_ := Aside0.mk (ve_ HO191.out gb193 hg hb)
                                  have n6_ := Aside0.mk (bb_ BK163.out hb)
                                  have n7_ := Aside0.mk (bb_ BK172.out hb)
                                  have n8_ := Aside0.mk (bb_ BK178.out hb)
                                  have n9_ := Aside0.mk (bb_ BK184.out hb)
                                  have n10_ := Aside0.mk (bs_ hb)
                                  have n11_ := Aside0.mk (hbox)
                                  have n12_ := Aside0.mk ((ge_ hg : w.heap.size ≤ gb193))
                                  have n13_ := Aside0.mk ((ge_ hg : w.heap.size ≤ gb193))
                                  have n14_ := Aside0.mk ((by rw [hg]; exact Nat.ne_of_lt (blk_lt (g := gb163) (o := .cells #[.int .i64 1, .slice none 0 0] 24 (0, 0)) (by (with_reducible repeat (first | refine blk_drewN ?_ _ | refine blk_drew ?_ | refine blk_alloc ?_ _)); exact BK163.out)) : gb163 ≠ gb193))
                                  have n15_ := Aside0.mk ((by rw [hg]; exact Nat.ne_of_gt (blk_lt (g := gb163) (o := .cells #[.int .i64 1, .slice none 0 0] 24 (0, 0)) (by (with_reducible repeat (first | refine blk_drewN ?_ _ | refine blk_drew ?_ | refine blk_alloc ?_ _)); exact BK163.out)) : gb193 ≠ gb163))
                                  have n16_ := Aside0.mk ((by rw [hg]; exact Nat.ne_of_lt (blk_lt (g := gb172) (o := .cells #[.int .i64 t167, .slice Ao189 t168.length co189] 24 (0, 0)) (by (with_reducible repeat (first | refine blk_drewN ?_ _ | refine blk_drew ?_ | refine blk_alloc ?_ _)); exact BK172.out)) : gb172 ≠ gb193))
                                  have n17_ := Aside0.mk ((by rw [hg]; exact Nat.ne_of_gt (blk_lt (g := gb172) (o := .cells #[.int .i64 t167, .slice Ao189 t168.length co189] 24 (0, 0)) (by (with_reducible repeat (first | refine blk_drewN ?_ _ | refine blk_drew ?_ | refine blk_alloc ?_ _)); exact BK172.out)) : gb193 ≠ gb172))
                                  have n18_ := Aside0.mk ((by rw [hg]; exact Nat.ne_of_lt (blk_lt (g := gb178) (o := .cells #[.int .i64 t173, .slice Ao197 t174.length co197] 24 (0, 0)) (by (with_reducible repeat (first | refine blk_drewN ?_ _ | refine blk_drew ?_ | refine blk_alloc ?_ _)); exact BK178.out)) : gb178 ≠ gb193))
                                  have n19_ := Aside0.mk ((by rw [hg]; exact Nat.ne_of_gt (blk_lt (g := gb178) (o := .cells #[.int .i64 t173, .slice Ao197 t174.length co197] 24 (0, 0)) (by (with_reducible repeat (first | refine blk_drewN ?_ _ | refine blk_drew ?_ | refine blk_alloc ?_ _)); exact BK178.out)) : gb193 ≠ gb178))
                                  have n20_ := Aside0.mk ((by rw [hg]; exact Nat.ne_of_lt (blk_lt (g := gb184) (o := .cells #[.int .i64 t179, .slice Ao206 t180.length co206] 24 (0, 0)) (by (with_reducible repeat (first | refine blk_drewN ?_ _ | refine blk_drew ?_ | refine blk_alloc ?_ _)); exact BK184.out)) : gb184 ≠ gb193))
                                  have n21_ := Aside0.mk ((by rw [hg]; exact Nat.ne_of_gt (blk_lt (g := gb184) (o := .cells #[.int .i64 t179, .slice Ao206 t180.length co206] 24 (0, 0)) (by (with_reducible repeat (first | refine blk_drewN ?_ _ | refine blk_drew ?_ | refine blk_alloc ?_ _)); exact BK184.out)) : gb193 ≠ gb184))
                                  clear HO166 HO170 HO176 HO182 HO187 HO191 BK163 BK172 BK178 BK184 HB
                                  have HO166 := n0_
                                  have HO170 := n1_
                                  have HO176 := n2_
                                  have HO182 := n3_
                                  have HO187 := n4_
                                  have HO191 := n5_
                                  have BK163 := n6_
                                  have BK172 := n7_
                                  have BK178 := n8_
                                  have BK184 := n9_
                                  have HB := n10_
                                  have BK193 := n11_
                                  have GW193 := n12_
                                  have GE193 := n13_
                                  have NB163_193 := n14_
                                  have NB193_163 := n15_
                                  have NB172_193 := n16_
                                  have NB193_172 := n17_
                                  have NB178_193 := n18_
                                  have NB193_178 := n19_
                                  have NB184_193 := n20_
                                  have NB193_184 := n21_
                                  clear n0_ n1_ n2_ n3_ n4_ n5_ n6_ n7_ n8_ n9_ n10_ n11_ n12_ n13_ n14_ n15_ n16_ n17_ n18_ n19_ n20_ n21_
                                  clear hb hbox hg
                                  refine hK.out _ _ ⟨(blk_cell BK172.out 0).trans rfl, (blk_cell BK172.out 1).trans rfl⟩ (fun hHeld => ?_)
                                  clear hK K
                                  refine norm_ (a' := ?_) ?_ ?_
                                  rotate_left
                                  · show Act.put _ (some 8) _ = _
                                    simp only [Act.put, List.setIfInBounds_toArray, List.set_cons_zero, List.set_cons_succ, i64_w, i32_w]
                                    rfl
                                  exact norm_ (by simp only [putAll, Act.put, List.setIfInBounds_toArray, List.set_cons_zero, List.set_cons_succ]) (hCont (.slice Ao211 y185.length co211, v190, gb193) _ ⟨hHeld, (by (with_reducible repeat (first | apply Kd.R_alloc | apply Kd.R_drewN | apply Kd.R_drew)); exact Kd.R_mono HO166.out (fun _ hk => hk.2)), (by (with_reducible repeat (first | apply Kd.V_alloc | apply Kd.V_drewN | apply Kd.V_drew)); exact Kd.V_mono HO170.out (fun _ hk => ⟨hk.1.1.1, ⟨hk.1.2, ⟨hk.1.1.2.1, ⟨hk.1.1.2.2.1, ⟨hk.1.1.2.2.2.1, ⟨hk.1.1.2.2.2.2, hk.2⟩⟩⟩⟩⟩⟩)), (by (with_reducible repeat (first | apply Kd.V_alloc | apply Kd.V_drewN | apply Kd.V_drew)); exact Kd.V_mono HO176.out (fun _ hk => ⟨hk.1.1.1, ⟨hk.1.2, ⟨hk.1.1.2.1, ⟨hk.1.1.2.2.1, ⟨hk.1.1.2.2.2.1, ⟨hk.1.1.2.2.2.2, hk.2⟩⟩⟩⟩⟩⟩)), (by (with_reducible repeat (first | apply Kd.V_alloc | apply Kd.V_drewN | apply Kd.V_drew)); exact Kd.V_mono HO182.out (fun _ hk => ⟨hk.1.1.1, ⟨hk.1.2, ⟨hk.1.1.2.1, ⟨hk.1.1.2.2.1, ⟨hk.1.1.2.2.2.1, ⟨hk.1.1.2.2.2.2, hk.2⟩⟩⟩⟩⟩⟩)), (by (with_reducible repeat (first | apply Kd.R_alloc | apply Kd.R_drewN | apply Kd.R_drew)); exact Kd.R_mono HO187.out (fun _ hk => hk.2)), (by (with_reducible repeat (first | apply Kd.V_alloc | apply Kd.V_drewN | apply Kd.V_drew)); exact Kd.V_mono HO191.out (fun _ hk => ⟨hk.1.1, ⟨hk.1.2.1, ⟨hk.1.2.2.1, ⟨hk.1.2.2.2.1, ⟨hk.1.2.2.2.2.1, ⟨hk.1.2.2.2.2.2, hk.2⟩⟩⟩⟩⟩⟩)), (by (with_reducible repeat (first | refine blk_drewN ?_ _ | refine blk_drew ?_ | refine blk_alloc ?_ _)); exact BK163.out), (by (with_reducible repeat (first | refine blk_drewN ?_ _ | refine blk_drew ?_ | refine blk_alloc ?_ _)); exact BK172.out), (by (with_reducible repeat (first | refine blk_drewN ?_ _ | refine blk_drew ?_ | refine blk_alloc ?_ _)); exact BK178.out), (by (with_reducible repeat (first | refine blk_drewN ?_ _ | refine blk_drew ?_ | refine blk_alloc ?_ _)); exact BK184.out), (by (with_reducible repeat (first | refine blk_drewN ?_ _ | refine blk_drew ?_ | refine blk_alloc ?_ _)); exact BK193.out), GW193.out, GE193.out, NB163_193.out, NB193_163.out, NB172_193.out, NB193_172.out, NB178_193.out, NB193_178.out, NB184_193.out, NB193_184.out, (by repeat (first | (with_reducible first | exact HB.out | apply below_alloc | apply pw_below_drewN | apply below_drew1 | refine below_set ?_ GE163.out | refine below_set ?_ GE172.out | refine below_set ?_ GE178.out | refine below_set ?_ GE184.out | refine below_set ?_ GE193.out) | exact HB.out))⟩)
                                · skip
                                  refine box_step ?hg (N := 8) ?hd (cs := #[.int .i64 0, .slice none 0 0]) (t := 24) ?hr ?_; (case hd => rfl); (case hg => rfl); (case hr => first | (go_simp; done) | (go_simp; rfl))
                                  intro gb193 hg w211 hbox hb
                                  have n0_ := Aside0.mk (rb_ HO166.out hb)
                                  have n1_ := Aside0.mk (ve_ HO170.out gb193 hg hb)
                                  have n2_ := Aside0.mk (ve_ HO176.out gb193 hg hb)
                                  have n3_ := Aside0.mk (ve_ HO182.out gb193 hg hb)
                                  have n4_ := Aside0.mk (rb_ HO187.out hb)
                                  have n5_ := Aside0.mk (bb_ BK163.out hb)
                                  have n6_ := Aside0.mk (bb_ BK172.out hb)
                                  have n7_ := Aside0.mk (bb_ BK178.out hb)
                                  have n8_ := Aside0.mk (bb_ BK184.out hb)
                                  have n9_ := Aside0.mk (bs_ hb)
                                  have n10_ := Aside0.mk (hbox)
                                  have n11_ := Aside0.mk ((ge_ hg : w.heap.size ≤ gb193))
                                  have n12_ := Aside0.mk ((ge_ hg : w.heap.size ≤ gb193))
                                  have n13_ := Aside0.mk ((by rw [hg]; exact Nat.ne_of_lt (blk_lt (g := gb163) (o := .cells #[.int .i64 1, .slice none 0 0] 24 (0, 0)) (by (with_reducible repeat (first | refine blk_drewN ?_ _ | refine blk_drew ?_ | refine blk_alloc ?_ _)); exact BK163.out)) : gb163 ≠ gb193))
                                  have n14_ := Aside0.mk ((by rw [hg]; exact Nat.ne_of_gt (blk_lt (g := gb163) (o := .cells #[.int .i64 1, .slice none 0 0] 24 (0, 0)) (by (with_reducible repeat (first | refine blk_drewN ?_ _ | refine blk_drew ?_ | refine blk_alloc ?_ _)); exact BK163.out)) : gb193 ≠ gb163))
                                  have n15_ := Aside0.mk ((by rw [hg]; exact Nat.ne_of_lt (blk_lt (g := gb172) (o := .cells #[.int .i64 t167, .slice Ao189 t168.length co189] 24 (0, 0)) (by (with_reducible repeat (first | refine blk_drewN ?_ _ | refine blk_drew ?_ | refine blk_alloc ?_ _)); exact BK172.out)) : gb172 ≠ gb193))
                                  have n16_ := Aside0.mk ((by rw [hg]; exact Nat.ne_of_gt (blk_lt (g := gb172) (o := .cells #[.int .i64 t167, .slice Ao189 t168.length co189] 24 (0, 0)) (by (with_reducible repeat (first | refine blk_drewN ?_ _ | refine blk_drew ?_ | refine blk_alloc ?_ _)); exact BK172.out)) : gb193 ≠ gb172))
                                  have n17_ := Aside0.mk ((by rw [hg]; exact Nat.ne_of_lt (blk_lt (g := gb178) (o := .cells #[.int .i64 t173, .slice Ao197 t174.length co197] 24 (0, 0)) (by (with_reducible repeat (first | refine blk_drewN ?_ _ | refine blk_drew ?_ | refine blk_alloc ?_ _)); exact BK178.out)) : gb178 ≠ gb193))
                                  have n18_ := Aside0.mk ((by rw [hg]; exact Nat.ne_of_gt (blk_lt (g := gb178) (o := .cells #[.int .i64 t173, .slice Ao197 t174.length co197] 24 (0, 0)) (by (with_reducible repeat (first | refine blk_drewN ?_ _ | refine blk_drew ?_ | refine blk_alloc ?_ _)); exact BK178.out)) : gb193 ≠ gb178))
                                  have n19_ := Aside0.mk ((by rw [hg]; exact Nat.ne_of_lt (blk_lt (g := gb184) (o := .cells #[.int .i64 t179, .slice Ao206 t180.length co206] 24 (0, 0)) (by (with_reducible repeat (first | refine blk_drewN ?_ _ | refine blk_drew ?_ | refine blk_alloc ?_ _)); exact BK184.out)) : gb184 ≠ gb193))
                                  have n20_ := Aside0.mk ((by rw [hg]; exact Nat.ne_of_gt (blk_lt (g := gb184) (o := .cells #[.int .i64 t179, .slice Ao206 t180.length co206] 24 (0, 0)) (by (with_reducible repeat (first | refine blk_drewN ?_ _ | refine blk_drew ?_ | refine blk_alloc ?_ _)); exact BK184.out)) : gb193 ≠ gb184))
                                  clear HO166 HO170 HO176 HO182 HO187 BK163 BK172 BK178 BK184 HB
                                  have HO166 := n0_
                                  have HO170 := n1_
                                  have HO176 := n2_
                                  have HO182 := n3_
                                  have HO187 := n4_
                                  have BK163 := n5_
                                  have BK172 := n6_
                                  have BK178 := n7_
                                  have BK184 := n8_
                                  have HB := n9_
                                  have BK193 := n10_
                                  have GW193 := n11_
                                  have GE193 := n12_
                                  have NB163_193 := n13_
                                  have NB193_163 := n14_
                                  have NB172_193 := n15_
                                  have NB193_172 := n16_
                                  have NB178_193 := n17_
                                  have NB193_178 := n18_
                                  have NB184_193 := n19_
                                  have NB193_184 := n20_
                                  clear n0_ n1_ n2_ n3_ n4_ n5_ n6_ n7_ n8_ n9_ n10_ n11_ n12_ n13_ n14_ n15_ n16_ n17_ n18_ n19_ n20_
                                  clear hb hbox hg
                                  obtain ⟨Ao212, co212, eo212⟩ := Kd.R_slice HO187.out
                                  (first | subst eo212 | (injection eo212 with f1_ f2_ f3_; have f4_ := f1_.symm; have f5_ := f3_.symm; clear f1_ f2_ f3_; subst f4_; subst f5_))
                                  refine hK.out _ _ ⟨(blk_cell BK172.out 0).trans rfl, (blk_cell BK172.out 1).trans rfl⟩ (fun hHeld => ?_)
                                  clear hK K
                                  refine norm_ (a' := ?_) ?_ ?_
                                  rotate_left
                                  · show Act.put _ (some 8) _ = _
                                    simp only [Act.put, List.setIfInBounds_toArray, List.set_cons_zero, List.set_cons_succ, i64_w, i32_w]
                                    rfl
                                  refine one_ (i := 2) (N := some 38) #[true, true, true, false, false, false, true, false, false] rfl rfl (one_of HT_.out (by kernel_rfl)) (by decide) (fun K hK => ?_)
                                  refine goes_ Try.func12 (by kernel_rfl) rfl #[.agg #[.int .i64 t167, .slice Ao189 t168.length co189], .int .u32 9, .int .u32 5, .int .u32 2, .slice Ao212 y185.length co212] (by rfl) rfl rfl (by (try simp only [List.map_toArray, List.map_cons, List.map_nil]); first | done | rfl | (simp only [List.length_drop, List.length_take]; rfl)) ?_
                                  with_reducible refine (box_Seal.calls t167 (fun k_ => (((some k_ ≠ (.slice Ao184 y164.length co184 : Value).ownBlock ∧ (k_ ≠ gb163 ∧ (k_ ≠ gb172 ∧ (k_ ≠ gb178 ∧ k_ ≠ gb184)))) ∧ some k_ ≠ (.slice Ao212 y185.length co212 : Value).ownBlock) ∧ k_ ≠ gb193)) _ _ t168 9 5 2 _ _ y185 t188 t189 t192 _ ?side1 ?side2 ?side3 A5.out).mono ?_
                                  (case side1 => exact HO170.out)
                                  (case side2 => repeat (first | exact (Kd.R_reads' HO187.out).2.2 | (with_reducible refine Kd.C_alloc ?_ _) | (with_reducible refine Kd.C_drewN ?_ _) | (with_reducible refine Kd.C_drew ?_)))
                                  (case side3 => exact (Kd.R_reads' HO187.out).2.1)
                                  rintro e w213 ⟨v190, rfl, ho0, hb⟩
                                  refine ⟨_, rfl, ?_⟩
                                  have n0_ := Aside0.mk (rb_ HO166.out hb)
                                  have n1_ := Aside0.mk (vb_ HO170.out hb)
                                  have n2_ := Aside0.mk (vb_ HO176.out hb)
                                  have n3_ := Aside0.mk (vb_ HO182.out hb)
                                  have n4_ := Aside0.mk (rb_ HO187.out hb)
                                  have n5_ := Aside0.mk (Kd.V_lower (Kd.V_mono (ok' := fun k_ => some k_ ≠ (.slice Ao184 y164.length co184 : Value).ownBlock ∧ some k_ ≠ (.slice Ao212 y185.length co212 : Value).ownBlock ∧ k_ ≠ gb163 ∧ k_ ≠ gb172 ∧ k_ ≠ gb178 ∧ k_ ≠ gb184 ∧ k_ ≠ gb193) ho0 (fun k_ hk_ => ⟨Or.elim hk_ (fun hs_ => hs_.1.1.1) (fun hn_ => (Kd.fresh' (Kd.R_lt (by (with_reducible repeat (first | apply Kd.R_alloc | apply Kd.R_drewN | apply Kd.R_drew)); exact HO166.out)) k_ hn_)), Or.elim hk_ (fun hs_ => hs_.1.2) (fun hn_ => (Kd.fresh' (Kd.R_lt (by (with_reducible repeat (first | apply Kd.R_alloc | apply Kd.R_drewN | apply Kd.R_drew)); exact HO187.out)) k_ hn_)), Or.elim hk_ (fun hs_ => hs_.1.1.2.1) (fun hn_ => (fb_ BK163.out k_ hn_)), Or.elim hk_ (fun hs_ => hs_.1.1.2.2.1) (fun hn_ => (fb_ BK172.out k_ hn_)), Or.elim hk_ (fun hs_ => hs_.1.1.2.2.2.1) (fun hn_ => (fb_ BK178.out k_ hn_)), Or.elim hk_ (fun hs_ => hs_.1.1.2.2.2.2) (fun hn_ => (fb_ BK184.out k_ hn_)), Or.elim hk_ (fun hs_ => hs_.2) (fun hn_ => (fb_ BK193.out k_ hn_))⟩)) (below_size (by repeat (first | (with_reducible first | exact HB.out | apply below_alloc | apply pw_below_drewN | apply below_drew1 | refine below_set ?_ GE163.out | refine below_set ?_ GE172.out | refine below_set ?_ GE178.out | refine below_set ?_ GE184.out | refine below_set ?_ GE193.out) | exact HB.out))))
                                  have n6_ := Aside0.mk (bb_ BK163.out hb)
                                  have n7_ := Aside0.mk (bb_ BK172.out hb)
                                  have n8_ := Aside0.mk (bb_ BK178.out hb)
                                  have n9_ := Aside0.mk (bb_ BK184.out hb)
                                  have n10_ := Aside0.mk (bb_ BK193.out hb)
                                  have n11_ := Aside0.mk (bs_ hb)
                                  clear HO166 HO170 HO176 HO182 HO187 BK163 BK172 BK178 BK184 BK193 HB
                                  have HO166 := n0_
                                  have HO170 := n1_
                                  have HO176 := n2_
                                  have HO182 := n3_
                                  have HO187 := n4_
                                  have HO191 := n5_
                                  have BK163 := n6_
                                  have BK172 := n7_
                                  have BK178 := n8_
                                  have BK184 := n9_
                                  have BK193 := n10_
                                  have HB := n11_
                                  clear n0_ n1_ n2_ n3_ n4_ n5_ n6_ n7_ n8_ n9_ n10_ n11_
                                  (try clear hb)
                                  (try clear hb2)
                                  (try clear hk)
                                  (try clear hi)
                                  (try clear ho0)
                                  refine hK.out _ _ ⟨(blk_cell BK172.out 0).trans rfl, (blk_cell BK172.out 1).trans rfl⟩ (fun hHeld => ?_)
                                  clear hK K
                                  refine norm_ (a' := ?_) ?_ ?_
                                  rotate_left
                                  · show Act.put _ (some 38) _ = _
                                    simp only [Act.put, List.setIfInBounds_toArray, List.set_cons_zero, List.set_cons_succ, i64_w, i32_w]
                                    rfl
                                  refine pure_ (i := 3) (N := some 35) (v := ?_) (a' := ?_) #[true, true, true, true, false, false, true, false, false] rfl rfl (any_of HT_.out (by kernel_rfl)) (fun _ _ _ h => h) (Or.inl ⟨by rfl, ?_⟩) ?_ ?_
                                  rotate_left
                                  · intro w'
                                    go_simp
                                    with_reducible rfl
                                  rotate_left
                                  · simp only [Act.put, List.setIfInBounds_toArray, List.set_cons_zero, List.set_cons_succ, i64_w, i32_w]
                                    rfl
                                  refine pure_ (i := 4) (N := some 39) (v := ?_) (a' := ?_) #[true, true, true, true, true, false, true, false, false] rfl rfl (any_of HT_.out (by kernel_rfl)) (fun _ _ _ h => h) (Or.inl ⟨by rfl, ?_⟩) ?_ ?_
                                  rotate_left
                                  · intro w'
                                    go_simp
                                    with_reducible rfl
                                  rotate_left
                                  · simp only [Act.put, List.setIfInBounds_toArray, List.set_cons_zero, List.set_cons_succ, i64_w, i32_w]
                                    rfl
                                  refine pure_ (i := 5) (N := some 40) (v := ?_) (a' := ?_) #[true, true, true, true, true, true, true, false, false] rfl rfl (any_of HT_.out (by kernel_rfl)) (fun _ _ _ h => h) (Or.inl ⟨by rfl, ?_⟩) ?_ ?_
                                  rotate_left
                                  · intro w'
                                    go_simp
                                    with_reducible rfl
                                  rotate_left
                                  · simp only [Act.put, List.setIfInBounds_toArray, List.set_cons_zero, List.set_cons_succ, i64_w, i32_w]
                                    rfl
                                  exact norm_ (by simp only [putAll, Act.put, List.setIfInBounds_toArray, List.set_cons_zero, List.set_cons_succ]) (hCont (.slice Ao212 y185.length co212, v190, gb193) _ ⟨hHeld, (by (with_reducible repeat (first | apply Kd.R_alloc | apply Kd.R_drewN | apply Kd.R_drew)); exact Kd.R_mono HO166.out (fun _ hk => hk.2)), (by (with_reducible repeat (first | apply Kd.V_alloc | apply Kd.V_drewN | apply Kd.V_drew)); exact Kd.V_mono HO170.out (fun _ hk => ⟨hk.1.1.1, ⟨hk.1.2, ⟨hk.1.1.2.1, ⟨hk.1.1.2.2.1, ⟨hk.1.1.2.2.2.1, ⟨hk.1.1.2.2.2.2, hk.2⟩⟩⟩⟩⟩⟩)), (by (with_reducible repeat (first | apply Kd.V_alloc | apply Kd.V_drewN | apply Kd.V_drew)); exact Kd.V_mono HO176.out (fun _ hk => ⟨hk.1.1.1, ⟨hk.1.2, ⟨hk.1.1.2.1, ⟨hk.1.1.2.2.1, ⟨hk.1.1.2.2.2.1, ⟨hk.1.1.2.2.2.2, hk.2⟩⟩⟩⟩⟩⟩)), (by (with_reducible repeat (first | apply Kd.V_alloc | apply Kd.V_drewN | apply Kd.V_drew)); exact Kd.V_mono HO182.out (fun _ hk => ⟨hk.1.1.1, ⟨hk.1.2, ⟨hk.1.1.2.1, ⟨hk.1.1.2.2.1, ⟨hk.1.1.2.2.2.1, ⟨hk.1.1.2.2.2.2, hk.2⟩⟩⟩⟩⟩⟩)), (by (with_reducible repeat (first | apply Kd.R_alloc | apply Kd.R_drewN | apply Kd.R_drew)); exact Kd.R_mono HO187.out (fun _ hk => hk.2)), (by (with_reducible repeat (first | apply Kd.V_alloc | apply Kd.V_drewN | apply Kd.V_drew)); exact HO191.out), (by (with_reducible repeat (first | refine blk_drewN ?_ _ | refine blk_drew ?_ | refine blk_alloc ?_ _)); exact BK163.out), (by (with_reducible repeat (first | refine blk_drewN ?_ _ | refine blk_drew ?_ | refine blk_alloc ?_ _)); exact BK172.out), (by (with_reducible repeat (first | refine blk_drewN ?_ _ | refine blk_drew ?_ | refine blk_alloc ?_ _)); exact BK178.out), (by (with_reducible repeat (first | refine blk_drewN ?_ _ | refine blk_drew ?_ | refine blk_alloc ?_ _)); exact BK184.out), (by (with_reducible repeat (first | refine blk_drewN ?_ _ | refine blk_drew ?_ | refine blk_alloc ?_ _)); exact BK193.out), GW193.out, GE193.out, NB163_193.out, NB193_163.out, NB172_193.out, NB193_172.out, NB178_193.out, NB193_178.out, NB184_193.out, NB193_184.out, (by repeat (first | (with_reducible first | exact HB.out | apply below_alloc | apply pw_below_drewN | apply below_drew1 | refine below_set ?_ GE163.out | refine below_set ?_ GE172.out | refine below_set ?_ GE178.out | refine below_set ?_ GE184.out | refine below_set ?_ GE193.out) | exact HB.out))⟩)
                              · skip
                                refine box_step ?hg (N := 8) ?hd (cs := #[.int .i64 0, .slice none 0 0]) (t := 24) ?hr ?_; (case hd => rfl); (case hg => rfl); (case hr => first | (go_simp; done) | (go_simp; rfl))
                                intro gb193 hg w209 hbox hb
                                have n0_ := Aside0.mk (rb_ HO166.out hb)
                                have n1_ := Aside0.mk (ve_ HO170.out gb193 hg hb)
                                have n2_ := Aside0.mk (ve_ HO176.out gb193 hg hb)
                                have n3_ := Aside0.mk (ve_ HO182.out gb193 hg hb)
                                have n4_ := Aside0.mk (bb_ BK163.out hb)
                                have n5_ := Aside0.mk (bb_ BK172.out hb)
                                have n6_ := Aside0.mk (bb_ BK178.out hb)
                                have n7_ := Aside0.mk (bb_ BK184.out hb)
                                have n8_ := Aside0.mk (bs_ hb)
                                have n9_ := Aside0.mk (hbox)
                                have n10_ := Aside0.mk ((ge_ hg : w.heap.size ≤ gb193))
                                have n11_ := Aside0.mk ((ge_ hg : w.heap.size ≤ gb193))
                                have n12_ := Aside0.mk ((by rw [hg]; exact Nat.ne_of_lt (blk_lt (g := gb163) (o := .cells #[.int .i64 1, .slice none 0 0] 24 (0, 0)) (by (with_reducible repeat (first | refine blk_drewN ?_ _ | refine blk_drew ?_ | refine blk_alloc ?_ _)); exact BK163.out)) : gb163 ≠ gb193))
                                have n13_ := Aside0.mk ((by rw [hg]; exact Nat.ne_of_gt (blk_lt (g := gb163) (o := .cells #[.int .i64 1, .slice none 0 0] 24 (0, 0)) (by (with_reducible repeat (first | refine blk_drewN ?_ _ | refine blk_drew ?_ | refine blk_alloc ?_ _)); exact BK163.out)) : gb193 ≠ gb163))
                                have n14_ := Aside0.mk ((by rw [hg]; exact Nat.ne_of_lt (blk_lt (g := gb172) (o := .cells #[.int .i64 t167, .slice Ao189 t168.length co189] 24 (0, 0)) (by (with_reducible repeat (first | refine blk_drewN ?_ _ | refine blk_drew ?_ | refine blk_alloc ?_ _)); exact BK172.out)) : gb172 ≠ gb193))
                                have n15_ := Aside0.mk ((by rw [hg]; exact Nat.ne_of_gt (blk_lt (g := gb172) (o := .cells #[.int .i64 t167, .slice Ao189 t168.length co189] 24 (0, 0)) (by (with_reducible repeat (first | refine blk_drewN ?_ _ | refine blk_drew ?_ | refine blk_alloc ?_ _)); exact BK172.out)) : gb193 ≠ gb172))
                                have n16_ := Aside0.mk ((by rw [hg]; exact Nat.ne_of_lt (blk_lt (g := gb178) (o := .cells #[.int .i64 t173, .slice Ao197 t174.length co197] 24 (0, 0)) (by (with_reducible repeat (first | refine blk_drewN ?_ _ | refine blk_drew ?_ | refine blk_alloc ?_ _)); exact BK178.out)) : gb178 ≠ gb193))
                                have n17_ := Aside0.mk ((by rw [hg]; exact Nat.ne_of_gt (blk_lt (g := gb178) (o := .cells #[.int .i64 t173, .slice Ao197 t174.length co197] 24 (0, 0)) (by (with_reducible repeat (first | refine blk_drewN ?_ _ | refine blk_drew ?_ | refine blk_alloc ?_ _)); exact BK178.out)) : gb193 ≠ gb178))
                                have n18_ := Aside0.mk ((by rw [hg]; exact Nat.ne_of_lt (blk_lt (g := gb184) (o := .cells #[.int .i64 t179, .slice Ao206 t180.length co206] 24 (0, 0)) (by (with_reducible repeat (first | refine blk_drewN ?_ _ | refine blk_drew ?_ | refine blk_alloc ?_ _)); exact BK184.out)) : gb184 ≠ gb193))
                                have n19_ := Aside0.mk ((by rw [hg]; exact Nat.ne_of_gt (blk_lt (g := gb184) (o := .cells #[.int .i64 t179, .slice Ao206 t180.length co206] 24 (0, 0)) (by (with_reducible repeat (first | refine blk_drewN ?_ _ | refine blk_drew ?_ | refine blk_alloc ?_ _)); exact BK184.out)) : gb193 ≠ gb184))
                                clear HO166 HO170 HO176 HO182 BK163 BK172 BK178 BK184 HB
                                have HO166 := n0_
                                have HO170 := n1_
                                have HO176 := n2_
                                have HO182 := n3_
                                have BK163 := n4_
                                have BK172 := n5_
                                have BK178 := n6_
                                have BK184 := n7_
                                have HB := n8_
                                have BK193 := n9_
                                have GW193 := n10_
                                have GE193 := n11_
                                have NB163_193 := n12_
                                have NB193_163 := n13_
                                have NB172_193 := n14_
                                have NB193_172 := n15_
                                have NB178_193 := n16_
                                have NB193_178 := n17_
                                have NB184_193 := n18_
                                have NB193_184 := n19_
                                clear n0_ n1_ n2_ n3_ n4_ n5_ n6_ n7_ n8_ n9_ n10_ n11_ n12_ n13_ n14_ n15_ n16_ n17_ n18_ n19_
                                clear hb hbox hg
                                refine hK.out _ _ ⟨(blk_cell BK172.out 0).trans rfl, (blk_cell BK172.out 1).trans rfl⟩ (fun hHeld => ?_)
                                clear hK K
                                refine norm_ (a' := ?_) ?_ ?_
                                rotate_left
                                · show Act.put _ (some 8) _ = _
                                  simp only [Act.put, List.setIfInBounds_toArray, List.set_cons_zero, List.set_cons_succ, i64_w, i32_w]
                                  rfl
                                refine one_ (i := 1) (N := some 37) #[true, true, false, false, false, false, true, false, false] rfl rfl (one_of HT_.out (by kernel_rfl)) (by decide) (fun K hK => ?_)
                                refine Kd.R_make_step (Kd.int .u32) _ 25 (by rfl) (N := 37) rfl 26 _ _ rfl 65 rfl rfl Try.underlying26 (.int .u32 0) 4 info25 rfl (by decide) (by omega) 0 (ok := fun _ => True) (okp := fun _ => True) rfl (fun _ hk => hk) trivial (by omega) (by omega) (Below.refl _ _) (Nat.le_refl _) ?_
                                intro v186 w210 ho211 hb hg_ hnew_
                                clear hg_ hnew_
                                (first | rw [← Ny185.out] at ho211 | (simp only [Int.reduceToNat] at ho211; rw [← Ny185.out] at ho211))
                                have n0_ := Aside0.mk (rf_ HO166.out (Kd.R_base ho211) hb)
                                have n1_ := Aside0.mk (vf_ HO170.out (Kd.R_base ho211) hb)
                                have n2_ := Aside0.mk (vf_ HO176.out (Kd.R_base ho211) hb)
                                have n3_ := Aside0.mk (vf_ HO182.out (Kd.R_base ho211) hb)
                                have n4_ := Aside0.mk (Kd.R_lower (Kd.R_new' ho211 (Kd.R_lt (by (with_reducible repeat (first | apply Kd.R_alloc | apply Kd.R_drewN | apply Kd.R_drew)); exact HO166.out))) (below_size (by repeat (first | (with_reducible first | exact HB.out | apply below_alloc | apply pw_below_drewN | apply below_drew1 | refine below_set ?_ GE163.out | refine below_set ?_ GE172.out | refine below_set ?_ GE178.out | refine below_set ?_ GE184.out | refine below_set ?_ GE193.out) | exact HB.out))))
                                have n5_ := Aside0.mk (bb_ BK163.out hb)
                                have n6_ := Aside0.mk (bb_ BK172.out hb)
                                have n7_ := Aside0.mk (bb_ BK178.out hb)
                                have n8_ := Aside0.mk (bb_ BK184.out hb)
                                have n9_ := Aside0.mk (bb_ BK193.out hb)
                                have n10_ := Aside0.mk (bs_ hb)
                                clear HO166 HO170 HO176 HO182 BK163 BK172 BK178 BK184 BK193 HB
                                have HO166 := n0_
                                have HO170 := n1_
                                have HO176 := n2_
                                have HO182 := n3_
                                have HO187 := n4_
                                have BK163 := n5_
                                have BK172 := n6_
                                have BK178 := n7_
                                have BK184 := n8_
                                have BK193 := n9_
                                have HB := n10_
                                clear n0_ n1_ n2_ n3_ n4_ n5_ n6_ n7_ n8_ n9_ n10_
                                clear hb ho211
                                obtain ⟨Ao212, co212, eo212⟩ := Kd.R_slice HO187.out
                                (first | subst eo212 | (injection eo212 with f1_ f2_ f3_; have f4_ := f1_.symm; have f5_ := f3_.symm; clear f1_ f2_ f3_; subst f4_; subst f5_))
                                refine hK.out _ _ ⟨(blk_cell BK172.out 0).trans rfl, (blk_cell BK172.out 1).trans rfl⟩ (fun hHeld => ?_)
                                clear hK K
                                refine norm_ (a' := ?_) ?_ ?_
                                rotate_left
                                · show Act.put _ (some 37) _ = _
                                  simp only [Act.put, List.setIfInBounds_toArray, List.set_cons_zero, List.set_cons_succ, i64_w, i32_w]
                                  rfl
                                refine one_ (i := 2) (N := some 38) #[true, true, true, false, false, false, true, false, false] rfl rfl (one_of HT_.out (by kernel_rfl)) (by decide) (fun K hK => ?_)
                                refine goes_ Try.func12 (by kernel_rfl) rfl #[.agg #[.int .i64 t167, .slice Ao189 t168.length co189], .int .u32 9, .int .u32 5, .int .u32 2, .slice Ao212 y185.length co212] (by rfl) rfl rfl (by (try simp only [List.map_toArray, List.map_cons, List.map_nil]); first | done | rfl | (simp only [List.length_drop, List.length_take]; rfl)) ?_
                                with_reducible refine (box_Seal.calls t167 (fun k_ => (((some k_ ≠ (.slice Ao184 y164.length co184 : Value).ownBlock ∧ (k_ ≠ gb163 ∧ (k_ ≠ gb172 ∧ (k_ ≠ gb178 ∧ k_ ≠ gb184)))) ∧ k_ ≠ gb193) ∧ some k_ ≠ (.slice Ao212 y185.length co212 : Value).ownBlock)) _ _ t168 9 5 2 _ _ y185 t188 t189 t192 _ ?side1 ?side2 ?side3 A5.out).mono ?_
                                (case side1 => exact HO170.out)
                                (case side2 => repeat (first | exact (Kd.R_reads' HO187.out).2.2 | (with_reducible refine Kd.C_alloc ?_ _) | (with_reducible refine Kd.C_drewN ?_ _) | (with_reducible refine Kd.C_drew ?_)))
                                (case side3 => exact (Kd.R_reads' HO187.out).2.1)
                                rintro e w213 ⟨v190, rfl, ho0, hb⟩
                                refine ⟨_, rfl, ?_⟩
                                have n0_ := Aside0.mk (rb_ HO166.out hb)
                                have n1_ := Aside0.mk (vb_ HO170.out hb)
                                have n2_ := Aside0.mk (vb_ HO176.out hb)
                                have n3_ := Aside0.mk (vb_ HO182.out hb)
                                have n4_ := Aside0.mk (rb_ HO187.out hb)
                                have n5_ := Aside0.mk (Kd.V_lower (Kd.V_mono (ok' := fun k_ => some k_ ≠ (.slice Ao184 y164.length co184 : Value).ownBlock ∧ some k_ ≠ (.slice Ao212 y185.length co212 : Value).ownBlock ∧ k_ ≠ gb163 ∧ k_ ≠ gb172 ∧ k_ ≠ gb178 ∧ k_ ≠ gb184 ∧ k_ ≠ gb193) ho0 (fun k_ hk_ => ⟨Or.elim hk_ (fun hs_ => hs_.1.1.1) (fun hn_ => (Kd.fresh' (Kd.R_lt (by (with_reducible repeat (first | apply Kd.R_alloc | apply Kd.R_drewN | apply Kd.R_drew)); exact HO166.out)) k_ hn_)), Or.elim hk_ (fun hs_ => hs_.2) (fun hn_ => (Kd.fresh' (Kd.R_lt (by (with_reducible repeat (first | apply Kd.R_alloc | apply Kd.R_drewN | apply Kd.R_drew)); exact HO187.out)) k_ hn_)), Or.elim hk_ (fun hs_ => hs_.1.1.2.1) (fun hn_ => (fb_ BK163.out k_ hn_)), Or.elim hk_ (fun hs_ => hs_.1.1.2.2.1) (fun hn_ => (fb_ BK172.out k_ hn_)), Or.elim hk_ (fun hs_ => hs_.1.1.2.2.2.1) (fun hn_ => (fb_ BK178.out k_ hn_)), Or.elim hk_ (fun hs_ => hs_.1.1.2.2.2.2) (fun hn_ => (fb_ BK184.out k_ hn_)), Or.elim hk_ (fun hs_ => hs_.1.2) (fun hn_ => (fb_ BK193.out k_ hn_))⟩)) (below_size (by repeat (first | (with_reducible first | exact HB.out | apply below_alloc | apply pw_below_drewN | apply below_drew1 | refine below_set ?_ GE163.out | refine below_set ?_ GE172.out | refine below_set ?_ GE178.out | refine below_set ?_ GE184.out | refine below_set ?_ GE193.out) | exact HB.out))))
                                have n6_ := Aside0.mk (bb_ BK163.out hb)
                                have n7_ := Aside0.mk (bb_ BK172.out hb)
                                have n8_ := Aside0.mk (bb_ BK178.out hb)
                                have n9_ := Aside0.mk (bb_ BK184.out hb)
                                have n10_ := Aside0.mk (bb_ BK193.out hb)
                                have n11_ := Aside0.mk (bs_ hb)
                                clear HO166 HO170 HO176 HO182 HO187 BK163 BK172 BK178 BK184 BK193 HB
                                have HO166 := n0_
                                have HO170 := n1_
                                have HO176 := n2_
                                have HO182 := n3_
                                have HO187 := n4_
                                have HO191 := n5_
                                have BK163 := n6_
                                have BK172 := n7_
                                have BK178 := n8_
                                have BK184 := n9_
                                have BK193 := n10_
                                have HB := n11_
                                clear n0_ n1_ n2_ n3_ n4_ n5_ n6_ n7_ n8_ n9_ n10_ n11_
                                (try clear hb)
                                (try clear hb2)
                                (try clear hk)
                                (try clear hi)
                                (try clear ho0)
                                refine hK.out _ _ ⟨(blk_cell BK172.out 0).trans rfl, (blk_cell BK172.out 1).trans rfl⟩ (fun hHeld => ?_)
                                clear hK K
                                refine norm_ (a' := ?_) ?_ ?_
                                rotate_left
                                · show Act.put _ (some 38) _ = _
                                  simp only [Act.put, List.setIfInBounds_toArray, List.set_cons_zero, List.set_cons_succ, i64_w, i32_w]
                                  rfl
                                refine pure_ (i := 3) (N := some 35) (v := ?_) (a' := ?_) #[true, true, true, true, false, false, true, false, false] rfl rfl (any_of HT_.out (by kernel_rfl)) (fun _ _ _ h => h) (Or.inl ⟨by rfl, ?_⟩) ?_ ?_
                                rotate_left
                                · intro w'
                                  go_simp
                                  with_reducible rfl
                                rotate_left
                                · simp only [Act.put, List.setIfInBounds_toArray, List.set_cons_zero, List.set_cons_succ, i64_w, i32_w]
                                  rfl
                                refine pure_ (i := 4) (N := some 39) (v := ?_) (a' := ?_) #[true, true, true, true, true, false, true, false, false] rfl rfl (any_of HT_.out (by kernel_rfl)) (fun _ _ _ h => h) (Or.inl ⟨by rfl, ?_⟩) ?_ ?_
                                rotate_left
                                · intro w'
                                  go_simp
                                  with_reducible rfl
                                rotate_left
                                · simp only [Act.put, List.setIfInBounds_toArray, List.set_cons_zero, List.set_cons_succ, i64_w, i32_w]
                                  rfl
                                refine pure_ (i := 5) (N := some 40) (v := ?_) (a' := ?_) #[true, true, true, true, true, true, true, false, false] rfl rfl (any_of HT_.out (by kernel_rfl)) (fun _ _ _ h => h) (Or.inl ⟨by rfl, ?_⟩) ?_ ?_
                                rotate_left
                                · intro w'
                                  go_simp
                                  with_reducible rfl
                                rotate_left
                                · simp only [Act.put, List.setIfInBounds_toArray, List.set_cons_zero, List.set_cons_succ, i64_w, i32_w]
                                  rfl
                                exact norm_ (by simp only [putAll, Act.put, List.setIfInBounds_toArray, List.set_cons_zero, List.set_cons_succ]) (hCont (.slice Ao212 y185.length co212, v190, gb193) _ ⟨hHeld, (by (with_reducible repeat (first | apply Kd.R_alloc | apply Kd.R_drewN | apply Kd.R_drew)); exact Kd.R_mono HO166.out (fun _ hk => hk.2)), (by (with_reducible repeat (first | apply Kd.V_alloc | apply Kd.V_drewN | apply Kd.V_drew)); exact Kd.V_mono HO170.out (fun _ hk => ⟨hk.1.1.1, ⟨hk.2, ⟨hk.1.1.2.1, ⟨hk.1.1.2.2.1, ⟨hk.1.1.2.2.2.1, ⟨hk.1.1.2.2.2.2, hk.1.2⟩⟩⟩⟩⟩⟩)), (by (with_reducible repeat (first | apply Kd.V_alloc | apply Kd.V_drewN | apply Kd.V_drew)); exact Kd.V_mono HO176.out (fun _ hk => ⟨hk.1.1.1, ⟨hk.2, ⟨hk.1.1.2.1, ⟨hk.1.1.2.2.1, ⟨hk.1.1.2.2.2.1, ⟨hk.1.1.2.2.2.2, hk.1.2⟩⟩⟩⟩⟩⟩)), (by (with_reducible repeat (first | apply Kd.V_alloc | apply Kd.V_drewN | apply Kd.V_drew)); exact Kd.V_mono HO182.out (fun _ hk => ⟨hk.1.1.1, ⟨hk.2, ⟨hk.1.1.2.1, ⟨hk.1.1.2.2.1, ⟨hk.1.1.2.2.2.1, ⟨hk.1.1.2.2.2.2, hk.1.2⟩⟩⟩⟩⟩⟩)), (by (with_reducible repeat (first | apply Kd.R_alloc | apply Kd.R_drewN | apply Kd.R_drew)); exact Kd.R_mono HO187.out (fun _ hk => hk.2)), (by (with_reducible repeat (first | apply Kd.V_alloc | apply Kd.V_drewN | apply Kd.V_drew)); exact HO191.out), (by (with_reducible repeat (first | refine blk_drewN ?_ _ | refine blk_drew ?_ | refine blk_alloc ?_ _)); exact BK163.out), (by (with_reducible repeat (first | refine blk_drewN ?_ _ | refine blk_drew ?_ | refine blk_alloc ?_ _)); exact BK172.out), (by (with_reducible repeat (first | refine blk_drewN ?_ _ | refine blk_drew ?_ | refine blk_alloc ?_ _)); exact BK178.out), (by (with_reducible repeat (first | refine blk_drewN ?_ _ | refine blk_drew ?_ | refine blk_alloc ?_ _)); exact BK184.out), (by (with_reducible repeat (first | refine blk_drewN ?_ _ | refine blk_drew ?_ | refine blk_alloc ?_ _)); exact BK193.out), GW193.out, GE193.out, NB163_193.out, NB193_163.out, NB172_193.out, NB193_172.out, NB178_193.out, NB193_178.out, NB184_193.out, NB193_184.out, (by repeat (first | (with_reducible first | exact HB.out | apply below_alloc | apply pw_below_drewN | apply below_drew1 | refine below_set ?_ GE163.out | refine below_set ?_ GE172.out | refine below_set ?_ GE178.out | refine below_set ?_ GE184.out | refine below_set ?_ GE193.out) | exact HB.out))⟩)
                            rintro ⟨v186, v190, gb193⟩ w214 ⟨hS_, h0_, h1_, h2_, h3_, h4_, h5_, h6_, h7_, h8_, h9_, h10_, h11_, h12_, h13_, h14_, h15_, h16_, h17_, h18_, h19_, h20_, h21_⟩
                            have n0_ : Aside0 (Kd.R (Kd.int .u32) 25 w214 w.heap.size (fun k_ => some k_ ≠ (v186 : Value).ownBlock) (.slice Ao184 y164.length co184) y164) := ⟨h0_⟩
                            have n1_ : Aside0 (Kd.V k43 43 w214 w.heap.size (fun k_ => some k_ ≠ (.slice Ao184 y164.length co184 : Value).ownBlock ∧ some k_ ≠ (v186 : Value).ownBlock ∧ k_ ≠ gb163 ∧ k_ ≠ gb172 ∧ k_ ≠ gb178 ∧ k_ ≠ gb184 ∧ k_ ≠ gb193) (.slice Ao189 t168.length co189) t168) := ⟨h1_⟩
                            have n4_ : Aside0 (Kd.R (Kd.int .u32) 25 w214 w.heap.size (fun k_ => some k_ ≠ (.slice Ao184 y164.length co184 : Value).ownBlock) v186 y185) := ⟨h4_⟩
                            have n5_ : Aside0 (Kd.V k43 43 w214 w.heap.size (fun k_ => some k_ ≠ (.slice Ao184 y164.length co184 : Value).ownBlock ∧ some k_ ≠ (v186 : Value).ownBlock ∧ k_ ≠ gb163 ∧ k_ ≠ gb172 ∧ k_ ≠ gb178 ∧ k_ ≠ gb184 ∧ k_ ≠ gb193) v190 t189) := ⟨h5_⟩
                            have n6_ : Aside0 (w214.heap[gb163]? = some (.cells #[.int .i64 1, .slice none 0 0] 24 (0, 0))) := ⟨h6_⟩
                            have n7_ : Aside0 (w214.heap[gb172]? = some (.cells #[.int .i64 t167, .slice Ao189 t168.length co189] 24 (0, 0))) := ⟨h7_⟩
                            have n10_ : Aside0 (w214.heap[gb193]? = some (.cells #[.int .i64 0, .slice none 0 0] 24 (0, 0))) := ⟨h10_⟩
                            have n12_ : Aside0 (w.heap.size ≤ gb193) := ⟨h12_⟩
                            have n13_ : Aside0 (gb163 ≠ gb193) := ⟨h13_⟩
                            have n14_ : Aside0 (gb193 ≠ gb163) := ⟨h14_⟩
                            have n15_ : Aside0 (gb172 ≠ gb193) := ⟨h15_⟩
                            have n16_ : Aside0 (gb193 ≠ gb172) := ⟨h16_⟩
                            have n17_ : Aside0 (gb178 ≠ gb193) := ⟨h17_⟩
                            have n18_ : Aside0 (gb193 ≠ gb178) := ⟨h18_⟩
                            have n19_ : Aside0 (gb184 ≠ gb193) := ⟨h19_⟩
                            have n20_ : Aside0 (gb193 ≠ gb184) := ⟨h20_⟩
                            have n21_ : Aside0 (Below w.heap.size w w214) := ⟨h21_⟩
                            clear HO166 HO170 HO176 HO182 BK163 BK172 BK178 BK184 HB h0_ h1_ h2_ h3_ h4_ h5_ h6_ h7_ h8_ h9_ h10_ h11_ h12_ h13_ h14_ h15_ h16_ h17_ h18_ h19_ h20_ h21_
                            have HO166 := n0_
                            have HO170 := n1_
                            have HO187 := n4_
                            have HO191 := n5_
                            have BK163 := n6_
                            have BK172 := n7_
                            have BK193 := n10_
                            have GE193 := n12_
                            have NB163_193 := n13_
                            have NB193_163 := n14_
                            have NB172_193 := n15_
                            have NB193_172 := n16_
                            have NB178_193 := n17_
                            have NB193_178 := n18_
                            have NB184_193 := n19_
                            have NB193_184 := n20_
                            have HB := n21_
                            clear n0_ n1_ n4_ n5_ n6_ n7_ n10_ n12_ n13_ n14_ n15_ n16_ n17_ n18_ n19_ n20_ n21_
                            have hHeld : w214.cell? ⟨gb172, 0, none⟩ = some (.int .i64 t167) ∧ w214.cell? ⟨gb172, 1, none⟩ = some (.slice Ao189 t168.length co189) := hS_
                            obtain ⟨Ao216, co216, eo216⟩ := Kd.V_slice HO191.out
                            (first | subst eo216 | (injection eo216 with f1_ f2_ f3_; have f4_ := f1_.symm; have f5_ := f3_.symm; clear f1_ f2_ f3_; subst f4_; subst f5_))
                            refine norm_ (a' := ?_) ?_ ?_
                            rotate_left
                            · simp only [putAll, Act.put, List.setIfInBounds_toArray, List.set_cons_zero, List.set_cons_succ]
                              rfl
                            refine one_ (i := 7) (N := none) #[true, true, true, true, true, true, true, true, false] rfl rfl (one_of HT_.out (by kernel_rfl)) (by decide) (fun K hK => ?_)
                            have hs215 : w214.cell? ⟨gb193, 0, none⟩ = some (.int .i64 0) := (blk_cell BK193.out 0).trans rfl
                            have hfs215 := blk_frozen BK193.out 0
                            have hns215_0 := NB163_193.out
                            have hns215_1 := NB172_193.out
                            have hns215_2 := NB178_193.out
                            have hns215_3 := NB184_193.out
                            have hms215_0 := NB193_163.out
                            have hms215_1 := NB193_172.out
                            have hms215_2 := NB193_178.out
                            have hms215_3 := NB193_184.out
                            have hs217 : w214.cell? ⟨gb193, 1, none⟩ = some (.slice none 0 0) := (blk_cell BK193.out 1).trans rfl
                            have hfs217 := blk_frozen BK193.out 1
                            have hns217_0 := NB163_193.out
                            have hns217_1 := NB172_193.out
                            have hns217_2 := NB178_193.out
                            have hns217_3 := NB184_193.out
                            have hms217_0 := NB193_163.out
                            have hms217_1 := NB193_172.out
                            have hms217_2 := NB193_178.out
                            have hms217_3 := NB193_184.out
                            refine skip_ (w1 := ?_) (by rfl) rfl ?_ ?_
                            rotate_left
                            · go_simp
                              rfl
                            refine hK.out _ _ ⟨((cell_far (p := ⟨gb193, _, none⟩) NB172_193.out _).trans (((cell_far (p := ⟨gb193, _, none⟩) NB172_193.out _).trans (hHeld.1)))), ((cell_far (p := ⟨gb193, _, none⟩) NB172_193.out _).trans (((cell_far (p := ⟨gb193, _, none⟩) NB172_193.out _).trans (hHeld.2))))⟩ (fun hHeld => ?_)
                            clear hK K
                            refine pure_ (i := 8) (N := some 9) (v := ?_) (a' := ?_) #[true, true, true, true, true, true, true, true, true] rfl rfl (any_of HT_.out (by kernel_rfl)) (fun _ _ _ h => h) (Or.inl ⟨by rfl, ?_⟩) ?_ ?_
                            rotate_left
                            · intro w'
                              go_simp
                              with_reducible rfl
                            rotate_left
                            · simp only [Act.put, List.setIfInBounds_toArray, List.set_cons_zero, List.set_cons_succ, i64_w, i32_w]
                              rfl
                            refine done_ (done_of HT_.out (by kernel_rfl)) ?_
                            have hnb218 := NB172_193.out
                            have hnc218 := NB193_172.out
                            have ⟨hcz219_0, hcz219_1⟩ := cz2_ BK172.out
                            have ⟨hfz219_0, hfz219_1⟩ := fz2_ BK172.out
                            try go_wp2_with (first | ((with_reducible refine gate_callee (f := 14) rfl ?_); refine goesL_ (some 43) rfl rfl Try.func14 (by kernel_rfl) rfl #[.agg #[.int .i64 t167, .slice Ao189 t168.length co189], .int .u32 5, .int .u32 2, .int .u32 9] rfl (by (try simp only [List.map_toArray, List.map_cons, List.map_nil]); first | done | rfl | (simp only [List.length_drop, List.length_take]; rfl)) ?_; (with_reducible refine (box_Open.calls t167 _ _ t168 5 2 9 t194 true _ ?side1 ?side2 A6.out).mono ?_); (case side1 => refine (Kd.V_reads' (e := 43) (base := w.heap.size) (ok := fun k_ => (some k_ ≠ (.slice Ao184 y164.length co184 : Value).ownBlock ∧ (some k_ ≠ (v186 : Value).ownBlock ∧ (k_ ≠ gb163 ∧ (k_ ≠ gb172 ∧ (k_ ≠ gb178 ∧ (k_ ≠ gb184 ∧ k_ ≠ gb193))))))) (n := t168.length) (c := co189) ?_).2.2; exact (by (with_reducible repeat (first | apply Kd.V_alloc | apply Kd.V_drewN | apply Kd.V_drew)); exact (Kd.V_mono (v2_ (g := gb193) (Kd.V_mono HO170.out (fun k_ hk => (⟨hk, hk.2.2.2.2.2.2⟩ : _ ∧ k_ ≠ gb193)))) (fun _ h_ => h_.1)))); (case side2 => exact (Kd.V_reads' HO170.out).2.1); rintro e w220 ⟨v195, rfl, ho0, hb⟩; refine ⟨_, rfl, ?_⟩; have n0_ := Aside0.mk (Kd.R_elder' (by (with_reducible repeat (first | apply Kd.R_alloc | apply Kd.R_drewN | apply Kd.R_drew)); exact (Kd.R_mono (r2_ (g := gb193) (Kd.R_types HO166.out BK193.out (by decide))) (fun _ h_ => h_.1))) (Kd.R_base ho0) hb); have n1_ := Aside0.mk (Kd.V_elder' (by (with_reducible repeat (first | apply Kd.V_alloc | apply Kd.V_drewN | apply Kd.V_drew)); exact (Kd.V_mono (v2_ (g := gb193) (Kd.V_mono HO170.out (fun k_ hk => (⟨hk, hk.2.2.2.2.2.2⟩ : _ ∧ k_ ≠ gb193)))) (fun _ h_ => h_.1))) (Kd.R_base ho0) hb); have n4_ := Aside0.mk (Kd.R_elder' (by (with_reducible repeat (first | apply Kd.R_alloc | apply Kd.R_drewN | apply Kd.R_drew)); exact (Kd.R_mono (r2_ (g := gb193) (Kd.R_types HO187.out BK193.out (by decide))) (fun _ h_ => h_.1))) (Kd.R_base ho0) hb); have n6_ := Aside0.mk (Kd.R_lower (Kd.R_new' (Kd.R_new' ho0 (Kd.R_lt (by (with_reducible repeat (first | apply Kd.R_alloc | apply Kd.R_drewN | apply Kd.R_drew)); exact (Kd.R_mono (r2_ (g := gb193) (Kd.R_types HO166.out BK193.out (by decide))) (fun _ h_ => h_.1))))) (Kd.R_lt (by (with_reducible repeat (first | apply Kd.R_alloc | apply Kd.R_drewN | apply Kd.R_drew)); exact (Kd.R_mono (r2_ (g := gb193) (Kd.R_types HO187.out BK193.out (by decide))) (fun _ h_ => h_.1))))) (below_size (by repeat (first | (with_reducible first | exact HB.out | apply below_alloc | apply pw_below_drewN | apply below_drew1 | refine below_set ?_ GE163.out | refine below_set ?_ GE172.out | refine below_set ?_ GE178.out | refine below_set ?_ GE184.out | refine below_set ?_ GE193.out) | exact HB.out)))); have n7_ := Aside0.mk (blk_below (g := gb163) (o := .cells #[.int .i64 1, .slice none 0 0] 24 (0, 0)) (bf2_ BK163.out NB163_193.out) hb); have n8_ := Aside0.mk (blk_below (g := gb172) (o := .cells #[.int .i64 t167, .slice Ao189 t168.length co189] 24 (0, 0)) (bf2_ BK172.out NB172_193.out) hb); have n12_ := Aside0.mk (bs_ hb); clear HO166 HO170 HO187 HO191 BK163 BK172 BK193 HB; have HO166 := n0_; have HO170 := n1_; have HO187 := n4_; have HO196 := n6_; have BK163 := n7_; have BK172 := n8_; have HB := n12_; clear n0_ n1_ n4_ n6_ n7_ n8_ n12_; (try clear hb); (try clear hb2); (try clear hk); (try clear hi); (try clear ho0); have ⟨hcz221_0, hcz221_1⟩ := cz2_ BK172.out; have ⟨hfz221_0, hfz221_1⟩ := fz2_ BK172.out) | ((with_reducible refine gate_callee (f := 14) rfl ?_); refine goesL_ (some 48) rfl rfl Try.func14 (by kernel_rfl) rfl #[.agg #[.int .i64 t167, .slice Ao189 t168.length co189], .int .u32 5, .int .u32 3, .int .u32 9] rfl (by (try simp only [List.map_toArray, List.map_cons, List.map_nil]); first | done | rfl | (simp only [List.length_drop, List.length_take]; rfl)) ?_; (with_reducible refine (box_Open.calls t167 _ _ t168 5 3 9 t198 false _ ?side1 ?side2 A7.out).mono ?_); (case side1 => repeat (first | exact (Kd.V_reads' HO170.out).2.2 | (with_reducible refine Kd.C_alloc ?_ _) | (with_reducible refine Kd.C_drewN ?_ _) | (with_reducible refine Kd.C_drew ?_))); (case side2 => exact (Kd.V_reads' HO170.out).2.1); rintro e w222 ⟨v199, rfl, ho0, hb⟩; refine ⟨_, rfl, ?_⟩; have n0_ := Aside0.mk (rf_ HO166.out (Kd.R_base ho0) hb); have n1_ := Aside0.mk (vf_ HO170.out (Kd.R_base ho0) hb); have n4_ := Aside0.mk (rf_ HO187.out (Kd.R_base ho0) hb); have n6_ := Aside0.mk (rf_ HO196.out (Kd.R_base ho0) hb); have n7_ := Aside0.mk (Kd.R_lower (Kd.R_new' (Kd.R_new' (Kd.R_new' ho0 (Kd.R_lt (by (with_reducible repeat (first | apply Kd.R_alloc | apply Kd.R_drewN | apply Kd.R_drew)); exact HO166.out))) (Kd.R_lt (by (with_reducible repeat (first | apply Kd.R_alloc | apply Kd.R_drewN | apply Kd.R_drew)); exact HO187.out))) (Kd.R_lt (by (with_reducible repeat (first | apply Kd.R_alloc | apply Kd.R_drewN | apply Kd.R_drew)); exact HO196.out))) (below_size (by repeat (first | (with_reducible first | exact HB.out | apply below_alloc | apply pw_below_drewN | apply below_drew1 | refine below_set ?_ GE163.out | refine below_set ?_ GE172.out | refine below_set ?_ GE178.out | refine below_set ?_ GE184.out | refine below_set ?_ GE193.out) | exact HB.out)))); have n8_ := Aside0.mk (bb_ BK163.out hb); have n9_ := Aside0.mk (bb_ BK172.out hb); have n13_ := Aside0.mk (bs_ hb); clear HO166 HO170 HO187 HO196 BK163 BK172 HB; have HO166 := n0_; have HO170 := n1_; have HO187 := n4_; have HO196 := n6_; have HO200 := n7_; have BK163 := n8_; have BK172 := n9_; have HB := n13_; clear n0_ n1_ n4_ n6_ n7_ n8_ n9_ n13_; (try clear hb); (try clear hb2); (try clear hk); (try clear hi); (try clear ho0); have ⟨hcz223_0, hcz223_1⟩ := cz2_ BK172.out; have ⟨hfz223_0, hfz223_1⟩ := fz2_ BK172.out) | ((with_reducible refine gate_callee (f := 14) rfl ?_); refine goesL_ (some 53) rfl rfl Try.func14 (by kernel_rfl) rfl #[.agg #[.int .i64 t167, .slice Ao189 t168.length co189], .int .u32 4, .int .u32 2, .int .u32 9] rfl (by (try simp only [List.map_toArray, List.map_cons, List.map_nil]); first | done | rfl | (simp only [List.length_drop, List.length_take]; rfl)) ?_; (with_reducible refine (box_Open.calls t167 _ _ t168 4 2 9 t202 false _ ?side1 ?side2 A8.out).mono ?_); (case side1 => repeat (first | exact (Kd.V_reads' HO170.out).2.2 | (with_reducible refine Kd.C_alloc ?_ _) | (with_reducible refine Kd.C_drewN ?_ _) | (with_reducible refine Kd.C_drew ?_))); (case side2 => exact (Kd.V_reads' HO170.out).2.1); rintro e w224 ⟨v203, rfl, ho0, hb⟩; refine ⟨_, rfl, ?_⟩; have n0_ := Aside0.mk (rf_ HO166.out (Kd.R_base ho0) hb); have n1_ := Aside0.mk (vf_ HO170.out (Kd.R_base ho0) hb); have n4_ := Aside0.mk (rf_ HO187.out (Kd.R_base ho0) hb); have n6_ := Aside0.mk (rf_ HO196.out (Kd.R_base ho0) hb); have n7_ := Aside0.mk (rf_ HO200.out (Kd.R_base ho0) hb); have n8_ := Aside0.mk (Kd.R_lower (Kd.R_new' (Kd.R_new' (Kd.R_new' (Kd.R_new' ho0 (Kd.R_lt (by (with_reducible repeat (first | apply Kd.R_alloc | apply Kd.R_drewN | apply Kd.R_drew)); exact HO166.out))) (Kd.R_lt (by (with_reducible repeat (first | apply Kd.R_alloc | apply Kd.R_drewN | apply Kd.R_drew)); exact HO187.out))) (Kd.R_lt (by (with_reducible repeat (first | apply Kd.R_alloc | apply Kd.R_drewN | apply Kd.R_drew)); exact HO196.out))) (Kd.R_lt (by (with_reducible repeat (first | apply Kd.R_alloc | apply Kd.R_drewN | apply Kd.R_drew)); exact HO200.out))) (below_size (by repeat (first | (with_reducible first | exact HB.out | apply below_alloc | apply pw_below_drewN | apply below_drew1 | refine below_set ?_ GE163.out | refine below_set ?_ GE172.out | refine below_set ?_ GE178.out | refine below_set ?_ GE184.out | refine below_set ?_ GE193.out) | exact HB.out)))); have n9_ := Aside0.mk (bb_ BK163.out hb); have n10_ := Aside0.mk (bb_ BK172.out hb); have n14_ := Aside0.mk (bs_ hb); clear HO166 HO170 HO187 HO196 HO200 BK163 BK172 HB; have HO166 := n0_; have HO170 := n1_; have HO187 := n4_; have HO196 := n6_; have HO200 := n7_; have HO204 := n8_; have BK163 := n9_; have BK172 := n10_; have HB := n14_; clear n0_ n1_ n4_ n6_ n7_ n8_ n9_ n10_ n14_; (try clear hb); (try clear hb2); (try clear hk); (try clear hi); (try clear ho0); have ⟨hcz225_0, hcz225_1⟩ := cz2_ BK172.out; have ⟨hfz225_0, hfz225_1⟩ := fz2_ BK172.out) | ((with_reducible refine gate_callee (f := 14) rfl ?_); refine goesL_ (some 58) rfl rfl Try.func14 (by kernel_rfl) rfl #[.agg #[.int .i64 t167, .slice Ao189 t168.length co189], .int .u32 5, .int .u32 2, .int .u32 8] rfl (by (try simp only [List.map_toArray, List.map_cons, List.map_nil]); first | done | rfl | (simp only [List.length_drop, List.length_take]; rfl)) ?_; (with_reducible refine (box_Open.calls t167 _ _ t168 5 2 8 t206 false _ ?side1 ?side2 A9.out).mono ?_); (case side1 => repeat (first | exact (Kd.V_reads' HO170.out).2.2 | (with_reducible refine Kd.C_alloc ?_ _) | (with_reducible refine Kd.C_drewN ?_ _) | (with_reducible refine Kd.C_drew ?_))); (case side2 => exact (Kd.V_reads' HO170.out).2.1); rintro e w226 ⟨v207, rfl, ho0, hb⟩; refine ⟨_, rfl, ?_⟩; have n0_ := Aside0.mk (rf_ HO166.out (Kd.R_base ho0) hb); have n1_ := Aside0.mk (vf_ HO170.out (Kd.R_base ho0) hb); have n4_ := Aside0.mk (rf_ HO187.out (Kd.R_base ho0) hb); have n6_ := Aside0.mk (rf_ HO196.out (Kd.R_base ho0) hb); have n7_ := Aside0.mk (rf_ HO200.out (Kd.R_base ho0) hb); have n8_ := Aside0.mk (rf_ HO204.out (Kd.R_base ho0) hb); have n9_ := Aside0.mk (Kd.R_lower (Kd.R_new' (Kd.R_new' (Kd.R_new' (Kd.R_new' (Kd.R_new' ho0 (Kd.R_lt (by (with_reducible repeat (first | apply Kd.R_alloc | apply Kd.R_drewN | apply Kd.R_drew)); exact HO166.out))) (Kd.R_lt (by (with_reducible repeat (first | apply Kd.R_alloc | apply Kd.R_drewN | apply Kd.R_drew)); exact HO187.out))) (Kd.R_lt (by (with_reducible repeat (first | apply Kd.R_alloc | apply Kd.R_drewN | apply Kd.R_drew)); exact HO196.out))) (Kd.R_lt (by (with_reducible repeat (first | apply Kd.R_alloc | apply Kd.R_drewN | apply Kd.R_drew)); exact HO200.out))) (Kd.R_lt (by (with_reducible repeat (first | apply Kd.R_alloc | apply Kd.R_drewN | apply Kd.R_drew)); exact HO204.out))) (below_size (by repeat (first | (with_reducible first | exact HB.out | apply below_alloc | apply pw_below_drewN | apply below_drew1 | refine below_set ?_ GE163.out | refine below_set ?_ GE172.out | refine below_set ?_ GE178.out | refine below_set ?_ GE184.out | refine below_set ?_ GE193.out) | exact HB.out)))); have n10_ := Aside0.mk (bb_ BK163.out hb); have n11_ := Aside0.mk (bb_ BK172.out hb); have n15_ := Aside0.mk (bs_ hb); clear HO166 HO170 HO187 HO196 HO200 HO204 BK163 BK172 HB; have HO166 := n0_; have HO170 := n1_; have HO187 := n4_; have HO196 := n6_; have HO200 := n7_; have HO204 := n8_; have HO208 := n9_; have BK163 := n10_; have BK172 := n11_; have HB := n15_; clear n0_ n1_ n4_ n6_ n7_ n8_ n9_ n10_ n11_ n15_; (try clear hb); (try clear hb2); (try clear hk); (try clear hi); (try clear ho0)) | ((with_reducible refine gate_dst (N := 80) rfl ?_); (try (refine gate_guard (by rfl) ?_; dsimp only)); refine Kd.R_lit (Kd.int .u32) _ 25 ?hg (N := 80) ?hd (xs := ([7, 8] : List Int)) (inner := [.int .u32 7, .int .u32 8]) (ok := fun _ => True) (okp := fun _ => True) ?hr ?hp (fun _ hk => hk) trivial (Below.refl _ _) (Nat.le_refl _) (by simp) ?_; (case hd => rfl); (case hg => rfl); (case hr => first | (go_simp; done) | (go_simp; rfl)); (case hp => exact (Reps.one (show Kd.M (Kd.int .u32) _ _ _ 7 [.int .u32 7] from rfl) (Reps.one (show Kd.M (Kd.int .u32) _ _ _ 8 [.int .u32 8] from rfl) (Reps.none _ _)))); intro v211 w227 ho228 hb hg_ hnew_; clear hg_ hnew_; (first | rw [← Ny210.out] at ho228 | (simp only [Int.reduceToNat] at ho228; rw [← Ny210.out] at ho228)); have n1_ := Aside0.mk (vf_ HO170.out (Kd.R_base ho228) hb); have n6_ := Aside0.mk (rf_ HO196.out (Kd.R_base ho228) hb); have n10_ := Aside0.mk (Kd.R_lower (Kd.R_new' (Kd.R_new' (Kd.R_new' (Kd.R_new' (Kd.R_new' (Kd.R_new' ho228 (Kd.R_lt (by (with_reducible repeat (first | apply Kd.R_alloc | apply Kd.R_drewN | apply Kd.R_drew)); exact HO166.out))) (Kd.R_lt (by (with_reducible repeat (first | apply Kd.R_alloc | apply Kd.R_drewN | apply Kd.R_drew)); exact HO187.out))) (Kd.R_lt (by (with_reducible repeat (first | apply Kd.R_alloc | apply Kd.R_drewN | apply Kd.R_drew)); exact HO196.out))) (Kd.R_lt (by (with_reducible repeat (first | apply Kd.R_alloc | apply Kd.R_drewN | apply Kd.R_drew)); exact HO200.out))) (Kd.R_lt (by (with_reducible repeat (first | apply Kd.R_alloc | apply Kd.R_drewN | apply Kd.R_drew)); exact HO204.out))) (Kd.R_lt (by (with_reducible repeat (first | apply Kd.R_alloc | apply Kd.R_drewN | apply Kd.R_drew)); exact HO208.out))) (below_size (by repeat (first | (with_reducible first | exact HB.out | apply below_alloc | apply pw_below_drewN | apply below_drew1 | refine below_set ?_ GE163.out | refine below_set ?_ GE172.out | refine below_set ?_ GE178.out | refine below_set ?_ GE184.out | refine below_set ?_ GE193.out) | exact HB.out)))); have n11_ := Aside0.mk (bb_ BK163.out hb); have n12_ := Aside0.mk (bb_ BK172.out hb); have n16_ := Aside0.mk (bs_ hb); clear HO166 HO170 HO187 HO196 HO200 HO204 HO208 BK163 BK172 HB; have HO170 := n1_; have HO196 := n6_; have HO212 := n10_; have BK163 := n11_; have BK172 := n12_; have HB := n16_; clear n1_ n6_ n10_ n11_ n12_ n16_; clear hb ho228; obtain ⟨Ao229, co229, eo229⟩ := Kd.R_slice HO196.out; subst eo229; obtain ⟨Ao230, co230, eo230⟩ := Kd.R_slice HO212.out; subst eo230) | (go_at_call 17; (with_reducible refine (chamberlainref01_Same.calls k _ _ t194 _ _ y210 true _ ?side1 ?side2 ?side3 ?side4 A15.out).mono ?_); (case side1 => repeat (first | exact (Kd.R_reads' HO196.out).2.2 | (with_reducible refine Kd.C_alloc ?_ _) | (with_reducible refine Kd.C_drewN ?_ _) | (with_reducible refine Kd.C_drew ?_))); (case side2 => exact (Kd.R_reads' HO196.out).2.1); (case side3 => repeat (first | exact (Kd.R_reads' HO212.out).2.2 | (with_reducible refine Kd.C_alloc ?_ _) | (with_reducible refine Kd.C_drewN ?_ _) | (with_reducible refine Kd.C_drew ?_))); (case side4 => exact (Kd.R_reads' HO212.out).2.1); rintro e w' ⟨rfl, ⟨nd, rfl⟩⟩; have hnb231 := NB163_193.out; have hnc231 := NB193_163.out; have ⟨hcz232_0, hcz232_1⟩ := cz2_ BK163.out; have ⟨hfz232_0, hfz232_1⟩ := fz2_ BK163.out) | (go_at_call 18; (with_reducible refine (box_Free.calls_nil 1 t214 _ A173.out).mono ?_); rintro e w233 ⟨rfl, hb⟩; have n1_ := Aside0.mk (vb_ HO170.out hb); have n12_ := Aside0.mk (bb_ BK172.out hb); have n16_ := Aside0.mk (bs_ hb); clear HO170 HO196 HO212 BK163 BK172 HB; have HO170 := n1_; have BK172 := n12_; have HB := n16_; clear n1_ n12_ n16_; (try clear hb); (try clear hb2); (try clear hk); (try clear hi); have ⟨hcz234_0, hcz234_1⟩ := cz2_ BK172.out; have ⟨hfz234_0, hfz234_1⟩ := fz2_ BK172.out) | (go_at_call 18; (with_reducible refine (box_Free.calls t167 _ _ t168 t215 _ ?side1 ?side2 A175.out).mono ?_); (case side1 => repeat (first | exact (Kd.V_reads' HO170.out).2.2 | (with_reducible refine Kd.C_alloc ?_ _) | (with_reducible refine Kd.C_drewN ?_ _) | (with_reducible refine Kd.C_drew ?_))); (case side2 => exact (Kd.V_reads' HO170.out).2.1); rintro e w235 ⟨rfl, hb⟩; have n1_ := Aside0.mk (vb_ HO170.out hb); have n12_ := Aside0.mk (bb_ BK172.out hb); have n16_ := Aside0.mk (bs_ hb); clear HO170 BK172 HB; have HO170 := n1_; have BK172 := n12_; have HB := n16_; clear n1_ n12_ n16_; (try clear hb); (try clear hb2); (try clear hk); (try clear hi); have ⟨hcz236_0, hcz236_1⟩ := cz2_ BK172.out; have ⟨hfz236_0, hfz236_1⟩ := fz2_ BK172.out) | (go_at_call 10; (with_reducible refine (box_Right.calls t167 _ _ t168 true _ ?side1 ?side2 A177.out).mono ?_); (case side1 => repeat (first | exact (Kd.V_reads' HO170.out).2.2 | (with_reducible refine Kd.C_alloc ?_ _) | (with_reducible refine Kd.C_drewN ?_ _) | (with_reducible refine Kd.C_drew ?_))); (case side2 => exact (Kd.V_reads' HO170.out).2.1); rintro e w237 ⟨rfl, hb⟩; have n16_ := Aside0.mk (bs_ hb); clear HO170 BK172 HB; have HB := n16_; clear n16_; (try clear hb); (try clear hb2); (try clear hk); (try clear hi)) | (go_at_call 10; (with_reducible refine (box_Right.calls_nil 65 t217 _ A179.out).mono ?_); rintro e w238 ⟨rfl, hb⟩; have n16_ := Aside0.mk (bs_ hb); clear HB; have HB := n16_; clear n16_; (try clear hb); (try clear hb2); (try clear hk); (try clear hi)))
                            go_ret
                            exact ⟨by first | rfl | (simp [errW_none, errW_some] <;> rfl) | (simp [*, errW_none, errW_some] <;> rfl), by repeat (first | (with_reducible first | exact HB.out | apply below_alloc | apply pw_below_drewN | apply below_drew1 | refine below_set ?_ GE163.out | refine below_set ?_ GE172.out | refine below_set ?_ GE178.out | refine below_set ?_ GE184.out | refine below_set ?_ GE193.out) | exact HB.out)⟩
                          · replace c178 := Bool.eq_false_iff.mpr c178
                            subst c178
                            have H1 : (some false) = some r := by rw [if_neg (show ¬ (false = true) by decide)] at H; exact H
                            clear H
                            have H := H1
                            clear H1
                            exact absurd (hT.out.symm.trans (Option.some.inj H).symm) (by decide)
                        · rw [if_neg c176] at H
                          have c176b0 : (t215 == 0) = false := beq_eq_false_iff_ne.mpr c176
                          have c176b1 : (t215 != 0) = true := bne_iff_ne.mpr c176
                          exact absurd (hT.out.symm.trans (Option.some.inj H).symm) (by decide)
                      · rw [if_neg c174] at H
                        have c174b0 : (t214 == 1) = false := beq_eq_false_iff_ne.mpr c174
                        have c174b1 : (t214 != 1) = true := bne_iff_ne.mpr c174
                        exact absurd (hT.out.symm.trans (Option.some.inj H).symm) (by decide)
              · replace c16 := Bool.eq_false_iff.mpr c16
                subst c16
                have H1 : (some false) = some r := by rw [if_neg (show ¬ (false = true) by decide)] at H; exact H
                clear H
                have H := H1
                clear H1
                exact absurd (hT.out.symm.trans (Option.some.inj H).symm) (by decide)
            · replace c14 := Bool.eq_false_iff.mpr c14
              subst c14
              have H1 : (some false) = some r := by rw [if_neg (show ¬ (false = true) by decide)] at H; exact H
              clear H
              have H := H1
              clear H1
              exact absurd (hT.out.symm.trans (Option.some.inj H).symm) (by decide)
          · rw [if_neg c13] at H
            have c13b0 : (t192 == 3) = false := beq_eq_false_iff_ne.mpr c13
            have c13b1 : (t192 != 3) = true := bne_iff_ne.mpr c13
            exact absurd (hT.out.symm.trans (Option.some.inj H).symm) (by decide)
        · rw [if_neg c12] at H
          have c12b0 : (t183 == 10) = false := beq_eq_false_iff_ne.mpr c12
          have c12b1 : (t183 != 10) = true := bne_iff_ne.mpr c12
          exact absurd (hT.out.symm.trans (Option.some.inj H).symm) (by decide)
      · rw [if_neg c11] at H
        have c11b0 : (t177 == 8) = false := beq_eq_false_iff_ne.mpr c11
        have c11b1 : (t177 != 8) = true := bne_iff_ne.mpr c11
        exact absurd (hT.out.symm.trans (Option.some.inj H).symm) (by decide)
    · rw [if_neg c10] at H
      have c10b0 : (t171 == 0) = false := beq_eq_false_iff_ne.mpr c10
      have c10b1 : (t171 != 0) = true := bne_iff_ne.mpr c10
      exact absurd (hT.out.symm.trans (Option.some.inj H).symm) (by decide)
  · rw [if_neg c4] at H
    exact absurd H (by simp)

end Go.Proofs.Ytifdlpnpbicahaa.PBoxKeeps
