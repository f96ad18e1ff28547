-- Written for this claim by wip/tools/myprint.py (print.py's forms; proofs of the faked functions by hand).
import Derived.Test.YtmmpiblmggkghaaPLogPartsx1
import Derived.Test.YtmmpiblmggkghaaPLogPartsx0
import Derived.Test.YtmmpiblmggkghaaPLogPartsx2
import Derived.Test.YtmmpiblmggkghaaPLogPartsx3
namespace Go.Proofs.Ytmmpiblmggkghaa.PLogParts
open Go.RowKit Go.Proofs.YtmmpiblmggkghaaW.PrintWords Go.Proofs.YtmmpiblmggkghaaW.PrintLast Go.Proofs.YtmmpiblmggkghaaW.PrintMore
attribute [local go_sem] max2_int min2_int max_two min_two max_three min_three max_four min_four   -- for this text's walks alone
set_option linter.unusedVariables false
set_option linter.unusedSimpArgs false

abbrev Y : Bool := true
abbrev Z : Bool := false
abbrev vA0 : Array Value := #[.int .i64 4, .int .i64 0, .int .i64 0, .int .u32 0, .int .u32 0, .int .u32 7, .int .u32 0, .int .u32 0, .int .u32 0, .int .u32 1]
abbrev vA1 : Array Value := #[.int .i64 3, .int .i64 0, .int .i64 0, .int .u32 0, .int .u32 0, .int .u32 7, .int .u32 0, .int .u32 0, .int .u32 0, .int .u32 2]
abbrev vA2 : Array Value := #[.int .i64 4, .int .i64 0, .int .i64 0, .int .u32 0, .int .u32 0, .int .u32 0, .int .u32 0, .int .u32 0, .int .u32 0, .int .u32 0]
abbrev vA3 : Array Value := #[.int .i64 4, .int .i64 0, .int .i64 0, .int .u32 0, .int .u32 0, .int .u32 7, .int .u32 0, .int .u32 0, .int .u32 0, .int .u32 0]
/-! ### chamberlainlaw19_awake: function 9 -/
def chamberlainlaw19_awake.f (k : Nat)  : Option (Bool) := (log_Fits.f 4 0 0 0 0 7 0 0 0 1 3 0 0 0 0 7 0 0 0 2 32).bind fun t140 => (if t140 = true then ((log_Fits.f 4 0 0 0 0 7 0 0 0 1 3 0 0 0 0 7 0 0 0 2 33).bind fun t141 => (if t141 = true then (some false) else ((log_Fits.f 4 0 0 0 0 7 0 0 0 1 3 0 0 0 0 7 0 0 0 2 0).bind fun t142 => (if t142 = true then ((log_Match.f (([(⟨4, 0, 0, 0, 0, 7, 0, 0, 0, 1⟩ : S25), (⟨4, 0, 0, 0, 0, 7, 0, 0, 0, 1⟩ : S25)] : List (S25))) (([(⟨3, 0, 0, 0, 0, 7, 0, 0, 0, 2⟩ : S25)] : List (S25))) 32).bind fun t149 => (if t149 = true then (some false) else ((log_Match.f (([(⟨4, 0, 0, 0, 0, 7, 0, 0, 0, 1⟩ : S25)] : List (S25))) (([(⟨3, 0, 0, 0, 0, 7, 0, 0, 0, 2⟩ : S25), (⟨3, 0, 0, 0, 0, 7, 0, 0, 0, 2⟩ : S25)] : List (S25))) 32).bind fun t156 => (if t156 = true then ((log_Match.f ([] : List (S25)) ([] : List (S25)) 511).bind fun t157 => (if t157 = true then ((log_Select.f k (([(⟨4, 0, 0, 0, 0, 7, 0, 0, 0, 1⟩ : S25), (⟨3, 0, 0, 0, 0, 7, 0, 0, 0, 2⟩ : S25), (⟨4, 0, 0, 0, 0, 7, 0, 0, 0, 1⟩ : S25)] : List (S25))) 4 0 0 0 0 7 0 0 0 1 1).bind fun t161 => ((chamberlainref12_Events.f k t161 (([(⟨4, 0, 0, 0, 0, 7, 0, 0, 0, 1⟩ : S25), (⟨4, 0, 0, 0, 0, 7, 0, 0, 0, 1⟩ : S25)] : List (S25)))).bind fun t167 => (some t167))) else (some false))) else (some false))))) else (some false))))) else (some false))
theorem chamberlainlaw19_awake.mono : ∀ k, LeO (chamberlainlaw19_awake.f k ) (chamberlainlaw19_awake.f (k + 1) ) := by
 intro  k
 unfold chamberlainlaw19_awake.f
 repeat' first
   | (with_reducible exact chamberlainref12_Events.mono _ _ _)
   | (with_reducible exact log_Select.mono _ _ _ _ _ _ _ _ _ _ _ _ _)
   | (with_reducible exact LeO.refl _)
   | (with_reducible exact LeO.none _)
   | (with_reducible refine LeO.ite ?_ ?_)
   | (with_reducible refine LeO.bind ?_ (fun _ => ?_))
   | exact chamberlainref12_Events.mono _ _ _
   | exact log_Select.mono _ _ _ _ _ _ _ _ _ _ _ _ _
   | exact LeO.none _
   | refine LeO.ite ?_ ?_
   | refine LeO.bind ?_ (fun _ => ?_)
def chamberlainlaw19_awake.T3 : Bool × List (List Nat × List Nat) := (true, [([], []), ([], []), ([0, 1], [0, 1]), ([2, 2], [2]), ([3], [3]), ([3], [3]), ([4, 5, 3, 3], [3, 4, 5]), ([6, 3], [3, 6]), ([3, 7], [3, 7]), ([8, 6], [8]), ([9], [9]), ([9], [9]), ([10, 11, 9, 9], [9, 10, 11]), ([9, 12], [9, 12]), ([13, 12], [13]), ([14], [14]), ([14], [14]), ([15, 16, 14], [14, 15, 16]), ([14], [14]), ([18, 14], [14, 18]), ([17, 19, 14, 14], [14, 17, 19]), ([20, 14], [14, 20]), ([14, 21], [14, 21]), ([22, 20], [22]), ([23], [23]), ([24, 23], [23, 24]), ([23], [23]), ([23], [23]), ([26, 27, 23], [23, 26, 27]), ([25, 28, 23, 23], [23, 25, 28]), ([23, 29], [23, 29]), ([30, 29], [30]), ([31, 31], [31]), ([31, 32], [31, 32]), ([33, 32], [33]), ([34], [34]), ([34], [34]), ([34], [34]), ([35, 36, 37, 34], [34, 35, 36, 37]), ([34], [34]), ([38, 39, 34, 34], [34, 38, 39]), ([34], [34]), ([34], [34]), ([41, 42, 34], [34, 41, 42]), ([40, 43, 40, 34], [34, 40, 43]), ([34, 44], [34, 44]), ([45, 44, 0, 1, 2, 3, 4, 5, 6, 7, 8, 9, 10, 11, 12, 13, 14, 15, 16, 17, 18, 19, 20, 21, 22, 23, 24, 25, 26, 27, 28, 29, 30, 31, 32, 33, 34, 35, 36, 37, 38, 39, 40, 41, 42, 43, 44, 45], [45])])
def chamberlainlaw19_awake.B3 : List Nat := [0, 0, 3, 7, 15, 15, 63, 127, 255, 511, 1023, 1023, 4095, 8191, 16383, 32767, 32767, 131071, 32767, 294911, 1048575, 2097151, 4194303, 8388607, 16777215, 33554431, 16777215, 16777215, 218103807, 536870911, 1073741823, 2147483647, 4294967295, 8589934591, 17179869183, 34359738367, 34359738367, 34359738367, 274877906943, 34359738367, 1099511627775, 34359738367, 34359738367, 6631429505023, 17592186044415, 35184372088831, 70368744177663]
theorem chamberlainlaw19_awake.tab3 : rtab .any (opsOf Try.f9 3) = chamberlainlaw19_awake.T3 := by kernel_rfl
theorem chamberlainlaw19_awake.bits3 : waitsOk chamberlainlaw19_awake.T3.2 chamberlainlaw19_awake.B3 = true := by kernel_rfl
theorem chamberlainlaw19_awake.at60 : chamberlainlaw19_awake.f 60 = some true := by decide +kernel
theorem chamberlainlaw19_awake.only (k : Nat) (r : Bool) (h : chamberlainlaw19_awake.f k = some r) : r = true := by
 have h1 := at_rounds chamberlainlaw19_awake.mono (Nat.le_max_left k 60) h
 have h2 := at_rounds chamberlainlaw19_awake.mono (Nat.le_max_right k 60) chamberlainlaw19_awake.at60
 rw [h1] at h2
 exact Option.some.inj h2
set_option maxHeartbeats 8000000 in
set_option maxRecDepth 100000 in
theorem chamberlainlaw19_awake.calls (k : Nat)  (r : Bool) (w : World) (h : chamberlainlaw19_awake.f k  = some r) :
  Calls Try.prog 9 #[] w fun e w' => e = .returned (.bool r) ∧ Below w.heap.size w w' := by
 have hT := Aside0.mk (chamberlainlaw19_awake.only k r h)
 have hu25 := Try.underlying25
 have HB := Aside0.mk (Below.refl w.heap.size w)
 have H : ((log_Fits.f 4 0 0 0 0 7 0 0 0 1 3 0 0 0 0 7 0 0 0 2 32).bind fun t140 => (if t140 = true then ((log_Fits.f 4 0 0 0 0 7 0 0 0 1 3 0 0 0 0 7 0 0 0 2 33).bind fun t141 => (if t141 = true then (some false) else ((log_Fits.f 4 0 0 0 0 7 0 0 0 1 3 0 0 0 0 7 0 0 0 2 0).bind fun t142 => (if t142 = true then ((log_Match.f (([(⟨4, 0, 0, 0, 0, 7, 0, 0, 0, 1⟩ : S25), (⟨4, 0, 0, 0, 0, 7, 0, 0, 0, 1⟩ : S25)] : List (S25))) (([(⟨3, 0, 0, 0, 0, 7, 0, 0, 0, 2⟩ : S25)] : List (S25))) 32).bind fun t149 => (if t149 = true then (some false) else ((log_Match.f (([(⟨4, 0, 0, 0, 0, 7, 0, 0, 0, 1⟩ : S25)] : List (S25))) (([(⟨3, 0, 0, 0, 0, 7, 0, 0, 0, 2⟩ : S25), (⟨3, 0, 0, 0, 0, 7, 0, 0, 0, 2⟩ : S25)] : List (S25))) 32).bind fun t156 => (if t156 = true then ((log_Match.f ([] : List (S25)) ([] : List (S25)) 511).bind fun t157 => (if t157 = true then ((log_Select.f k (([(⟨4, 0, 0, 0, 0, 7, 0, 0, 0, 1⟩ : S25), (⟨3, 0, 0, 0, 0, 7, 0, 0, 0, 2⟩ : S25), (⟨4, 0, 0, 0, 0, 7, 0, 0, 0, 1⟩ : S25)] : List (S25))) 4 0 0 0 0 7 0 0 0 1 1).bind fun t161 => ((chamberlainref12_Events.f k t161 (([(⟨4, 0, 0, 0, 0, 7, 0, 0, 0, 1⟩ : S25), (⟨4, 0, 0, 0, 0, 7, 0, 0, 0, 1⟩ : S25)] : List (S25)))).bind fun t167 => (some t167))) else (some false))) else (some false))))) else (some false))))) else (some false))) = some r := h
 clear h
 replace H := Option.bind_eq_some_iff.mp H
 obtain ⟨t140, A10, H⟩ := H
 replace H : (if t140 = true then ((log_Fits.f 4 0 0 0 0 7 0 0 0 1 3 0 0 0 0 7 0 0 0 2 33).bind fun t141 => (if t141 = true then (some false) else ((log_Fits.f 4 0 0 0 0 7 0 0 0 1 3 0 0 0 0 7 0 0 0 2 0).bind fun t142 => (if t142 = true then ((log_Match.f (([(⟨4, 0, 0, 0, 0, 7, 0, 0, 0, 1⟩ : S25), (⟨4, 0, 0, 0, 0, 7, 0, 0, 0, 1⟩ : S25)] : List (S25))) (([(⟨3, 0, 0, 0, 0, 7, 0, 0, 0, 2⟩ : S25)] : List (S25))) 32).bind fun t149 => (if t149 = true then (some false) else ((log_Match.f (([(⟨4, 0, 0, 0, 0, 7, 0, 0, 0, 1⟩ : S25)] : List (S25))) (([(⟨3, 0, 0, 0, 0, 7, 0, 0, 0, 2⟩ : S25), (⟨3, 0, 0, 0, 0, 7, 0, 0, 0, 2⟩ : S25)] : List (S25))) 32).bind fun t156 => (if t156 = true then ((log_Match.f ([] : List (S25)) ([] : List (S25)) 511).bind fun t157 => (if t157 = true then ((log_Select.f k (([(⟨4, 0, 0, 0, 0, 7, 0, 0, 0, 1⟩ : S25), (⟨3, 0, 0, 0, 0, 7, 0, 0, 0, 2⟩ : S25), (⟨4, 0, 0, 0, 0, 7, 0, 0, 0, 1⟩ : S25)] : List (S25))) 4 0 0 0 0 7 0 0 0 1 1).bind fun t161 => ((chamberlainref12_Events.f k t161 (([(⟨4, 0, 0, 0, 0, 7, 0, 0, 0, 1⟩ : S25), (⟨4, 0, 0, 0, 0, 7, 0, 0, 0, 1⟩ : S25)] : List (S25)))).bind fun t167 => (some t167))) else (some false))) else (some false))))) else (some false))))) else (some false)) = some r := H
 have A1 := Aside0.mk A10
 clear A10
 by_cases c2 : t140 = true
 ·
  subst c2
  have H1 : ((log_Fits.f 4 0 0 0 0 7 0 0 0 1 3 0 0 0 0 7 0 0 0 2 33).bind fun t141 => (if t141 = true then (some false) else ((log_Fits.f 4 0 0 0 0 7 0 0 0 1 3 0 0 0 0 7 0 0 0 2 0).bind fun t142 => (if t142 = true then ((log_Match.f (([(⟨4, 0, 0, 0, 0, 7, 0, 0, 0, 1⟩ : S25), (⟨4, 0, 0, 0, 0, 7, 0, 0, 0, 1⟩ : S25)] : List (S25))) (([(⟨3, 0, 0, 0, 0, 7, 0, 0, 0, 2⟩ : S25)] : List (S25))) 32).bind fun t149 => (if t149 = true then (some false) else ((log_Match.f (([(⟨4, 0, 0, 0, 0, 7, 0, 0, 0, 1⟩ : S25)] : List (S25))) (([(⟨3, 0, 0, 0, 0, 7, 0, 0, 0, 2⟩ : S25), (⟨3, 0, 0, 0, 0, 7, 0, 0, 0, 2⟩ : S25)] : List (S25))) 32).bind fun t156 => (if t156 = true then ((log_Match.f ([] : List (S25)) ([] : List (S25)) 511).bind fun t157 => (if t157 = true then ((log_Select.f k (([(⟨4, 0, 0, 0, 0, 7, 0, 0, 0, 1⟩ : S25), (⟨3, 0, 0, 0, 0, 7, 0, 0, 0, 2⟩ : S25), (⟨4, 0, 0, 0, 0, 7, 0, 0, 0, 1⟩ : S25)] : List (S25))) 4 0 0 0 0 7 0 0 0 1 1).bind fun t161 => ((chamberlainref12_Events.f k t161 (([(⟨4, 0, 0, 0, 0, 7, 0, 0, 0, 1⟩ : S25), (⟨4, 0, 0, 0, 0, 7, 0, 0, 0, 1⟩ : S25)] : List (S25)))).bind fun t167 => (some t167))) else (some false))) else (some false))))) else (some false))))) = some r := by rw [if_pos rfl] at H; exact H
  clear H
  have H := H1
  clear H1
  replace H := Option.bind_eq_some_iff.mp H
  obtain ⟨t141, A30, H⟩ := H
  replace H : (if t141 = true then (some false) else ((log_Fits.f 4 0 0 0 0 7 0 0 0 1 3 0 0 0 0 7 0 0 0 2 0).bind fun t142 => (if t142 = true then ((log_Match.f (([(⟨4, 0, 0, 0, 0, 7, 0, 0, 0, 1⟩ : S25), (⟨4, 0, 0, 0, 0, 7, 0, 0, 0, 1⟩ : S25)] : List (S25))) (([(⟨3, 0, 0, 0, 0, 7, 0, 0, 0, 2⟩ : S25)] : List (S25))) 32).bind fun t149 => (if t149 = true then (some false) else ((log_Match.f (([(⟨4, 0, 0, 0, 0, 7, 0, 0, 0, 1⟩ : S25)] : List (S25))) (([(⟨3, 0, 0, 0, 0, 7, 0, 0, 0, 2⟩ : S25), (⟨3, 0, 0, 0, 0, 7, 0, 0, 0, 2⟩ : S25)] : List (S25))) 32).bind fun t156 => (if t156 = true then ((log_Match.f ([] : List (S25)) ([] : List (S25)) 511).bind fun t157 => (if t157 = true then ((log_Select.f k (([(⟨4, 0, 0, 0, 0, 7, 0, 0, 0, 1⟩ : S25), (⟨3, 0, 0, 0, 0, 7, 0, 0, 0, 2⟩ : S25), (⟨4, 0, 0, 0, 0, 7, 0, 0, 0, 1⟩ : S25)] : List (S25))) 4 0 0 0 0 7 0 0 0 1 1).bind fun t161 => ((chamberlainref12_Events.f k t161 (([(⟨4, 0, 0, 0, 0, 7, 0, 0, 0, 1⟩ : S25), (⟨4, 0, 0, 0, 0, 7, 0, 0, 0, 1⟩ : S25)] : List (S25)))).bind fun t167 => (some t167))) else (some false))) else (some false))))) else (some false)))) = some r := H
  have A3 := Aside0.mk A30
  clear A30
  by_cases c4 : t141 = true
  ·
   subst c4
   have H1 : (some false) = some r := by rw [if_pos rfl] at H; exact H
   clear H
   have H := H1
   clear H1
   exact absurd (hT.out.symm.trans (Option.some.inj H).symm) (by decide)
  ·
   replace c4 := Bool.eq_false_iff.mpr c4
   subst c4
   have H1 : ((log_Fits.f 4 0 0 0 0 7 0 0 0 1 3 0 0 0 0 7 0 0 0 2 0).bind fun t142 => (if t142 = true then ((log_Match.f (([(⟨4, 0, 0, 0, 0, 7, 0, 0, 0, 1⟩ : S25), (⟨4, 0, 0, 0, 0, 7, 0, 0, 0, 1⟩ : S25)] : List (S25))) (([(⟨3, 0, 0, 0, 0, 7, 0, 0, 0, 2⟩ : S25)] : List (S25))) 32).bind fun t149 => (if t149 = true then (some false) else ((log_Match.f (([(⟨4, 0, 0, 0, 0, 7, 0, 0, 0, 1⟩ : S25)] : List (S25))) (([(⟨3, 0, 0, 0, 0, 7, 0, 0, 0, 2⟩ : S25), (⟨3, 0, 0, 0, 0, 7, 0, 0, 0, 2⟩ : S25)] : List (S25))) 32).bind fun t156 => (if t156 = true then ((log_Match.f ([] : List (S25)) ([] : List (S25)) 511).bind fun t157 => (if t157 = true then ((log_Select.f k (([(⟨4, 0, 0, 0, 0, 7, 0, 0, 0, 1⟩ : S25), (⟨3, 0, 0, 0, 0, 7, 0, 0, 0, 2⟩ : S25), (⟨4, 0, 0, 0, 0, 7, 0, 0, 0, 1⟩ : S25)] : List (S25))) 4 0 0 0 0 7 0 0 0 1 1).bind fun t161 => ((chamberlainref12_Events.f k t161 (([(⟨4, 0, 0, 0, 0, 7, 0, 0, 0, 1⟩ : S25), (⟨4, 0, 0, 0, 0, 7, 0, 0, 0, 1⟩ : S25)] : List (S25)))).bind fun t167 => (some t167))) else (some false))) else (some false))))) else (some false))) = some r := by rw [if_neg (show ¬ (false = true) by decide)] at H; exact H
   clear H
   have H := H1
   clear H1
   replace H := Option.bind_eq_some_iff.mp H
   obtain ⟨t142, A140, H⟩ := H
   replace H : (if t142 = true then ((log_Match.f (([(⟨4, 0, 0, 0, 0, 7, 0, 0, 0, 1⟩ : S25), (⟨4, 0, 0, 0, 0, 7, 0, 0, 0, 1⟩ : S25)] : List (S25))) (([(⟨3, 0, 0, 0, 0, 7, 0, 0, 0, 2⟩ : S25)] : List (S25))) 32).bind fun t149 => (if t149 = true then (some false) else ((log_Match.f (([(⟨4, 0, 0, 0, 0, 7, 0, 0, 0, 1⟩ : S25)] : List (S25))) (([(⟨3, 0, 0, 0, 0, 7, 0, 0, 0, 2⟩ : S25), (⟨3, 0, 0, 0, 0, 7, 0, 0, 0, 2⟩ : S25)] : List (S25))) 32).bind fun t156 => (if t156 = true then ((log_Match.f ([] : List (S25)) ([] : List (S25)) 511).bind fun t157 => (if t157 = true then ((log_Select.f k (([(⟨4, 0, 0, 0, 0, 7, 0, 0, 0, 1⟩ : S25), (⟨3, 0, 0, 0, 0, 7, 0, 0, 0, 2⟩ : S25), (⟨4, 0, 0, 0, 0, 7, 0, 0, 0, 1⟩ : S25)] : List (S25))) 4 0 0 0 0 7 0 0 0 1 1).bind fun t161 => ((chamberlainref12_Events.f k t161 (([(⟨4, 0, 0, 0, 0, 7, 0, 0, 0, 1⟩ : S25), (⟨4, 0, 0, 0, 0, 7, 0, 0, 0, 1⟩ : S25)] : List (S25)))).bind fun t167 => (some t167))) else (some false))) else (some false))))) else (some false)) = some r := H
   have A14 := Aside0.mk A140
   clear A140
   by_cases c15 : t142 = true
   ·
    subst c15
    have H1 : ((log_Match.f (([(⟨4, 0, 0, 0, 0, 7, 0, 0, 0, 1⟩ : S25), (⟨4, 0, 0, 0, 0, 7, 0, 0, 0, 1⟩ : S25)] : List (S25))) (([(⟨3, 0, 0, 0, 0, 7, 0, 0, 0, 2⟩ : S25)] : List (S25))) 32).bind fun t149 => (if t149 = true then (some false) else ((log_Match.f (([(⟨4, 0, 0, 0, 0, 7, 0, 0, 0, 1⟩ : S25)] : List (S25))) (([(⟨3, 0, 0, 0, 0, 7, 0, 0, 0, 2⟩ : S25), (⟨3, 0, 0, 0, 0, 7, 0, 0, 0, 2⟩ : S25)] : List (S25))) 32).bind fun t156 => (if t156 = true then ((log_Match.f ([] : List (S25)) ([] : List (S25)) 511).bind fun t157 => (if t157 = true then ((log_Select.f k (([(⟨4, 0, 0, 0, 0, 7, 0, 0, 0, 1⟩ : S25), (⟨3, 0, 0, 0, 0, 7, 0, 0, 0, 2⟩ : S25), (⟨4, 0, 0, 0, 0, 7, 0, 0, 0, 1⟩ : S25)] : List (S25))) 4 0 0 0 0 7 0 0 0 1 1).bind fun t161 => ((chamberlainref12_Events.f k t161 (([(⟨4, 0, 0, 0, 0, 7, 0, 0, 0, 1⟩ : S25), (⟨4, 0, 0, 0, 0, 7, 0, 0, 0, 1⟩ : S25)] : List (S25)))).bind fun t167 => (some t167))) else (some false))) else (some false))))) = some r := by rw [if_pos rfl] at H; exact H
    clear H
    have H := H1
    clear H1
    obtain ⟨y143, hy143⟩ : ∃ y_ : List (S25), y_ = (([(⟨4, 0, 0, 0, 0, 7, 0, 0, 0, 1⟩ : S25), (⟨4, 0, 0, 0, 0, 7, 0, 0, 0, 1⟩ : S25)] : List (S25))) := ⟨_, rfl⟩
    replace H : ((log_Match.f y143 (([(⟨3, 0, 0, 0, 0, 7, 0, 0, 0, 2⟩ : S25)] : List (S25))) 32).bind fun t149 => (if t149 = true then (some false) else ((log_Match.f (([(⟨4, 0, 0, 0, 0, 7, 0, 0, 0, 1⟩ : S25)] : List (S25))) (([(⟨3, 0, 0, 0, 0, 7, 0, 0, 0, 2⟩ : S25), (⟨3, 0, 0, 0, 0, 7, 0, 0, 0, 2⟩ : S25)] : List (S25))) 32).bind fun t156 => (if t156 = true then ((log_Match.f ([] : List (S25)) ([] : List (S25)) 511).bind fun t157 => (if t157 = true then ((log_Select.f k (([(⟨4, 0, 0, 0, 0, 7, 0, 0, 0, 1⟩ : S25), (⟨3, 0, 0, 0, 0, 7, 0, 0, 0, 2⟩ : S25), (⟨4, 0, 0, 0, 0, 7, 0, 0, 0, 1⟩ : S25)] : List (S25))) 4 0 0 0 0 7 0 0 0 1 1).bind fun t161 => ((chamberlainref12_Events.f k t161 (([(⟨4, 0, 0, 0, 0, 7, 0, 0, 0, 1⟩ : S25), (⟨4, 0, 0, 0, 0, 7, 0, 0, 0, 1⟩ : S25)] : List (S25)))).bind fun t167 => (some t167))) else (some false))) else (some false))))) = some r := by first | (rw [hy143]; with_reducible exact H) | (have H2_ := (Option.bind_some _ _).symm.trans H; rw [hy143]; with_reducible exact H2_) | (have H2_ := (Option.bind_some _ _).symm.trans H; with_reducible exact H2_) | with_reducible exact H | (rw [hy143]; exact H) | exact H
    have Ny143 := Aside0.mk hy143
    clear hy143
    obtain ⟨y146, hy146⟩ : ∃ y_ : List (S25), y_ = (([(⟨3, 0, 0, 0, 0, 7, 0, 0, 0, 2⟩ : S25)] : List (S25))) := ⟨_, rfl⟩
    replace H : ((log_Match.f y143 y146 32).bind fun t149 => (if t149 = true then (some false) else ((log_Match.f (([(⟨4, 0, 0, 0, 0, 7, 0, 0, 0, 1⟩ : S25)] : List (S25))) (([(⟨3, 0, 0, 0, 0, 7, 0, 0, 0, 2⟩ : S25), (⟨3, 0, 0, 0, 0, 7, 0, 0, 0, 2⟩ : S25)] : List (S25))) 32).bind fun t156 => (if t156 = true then ((log_Match.f ([] : List (S25)) ([] : List (S25)) 511).bind fun t157 => (if t157 = true then ((log_Select.f k (([(⟨4, 0, 0, 0, 0, 7, 0, 0, 0, 1⟩ : S25), (⟨3, 0, 0, 0, 0, 7, 0, 0, 0, 2⟩ : S25), (⟨4, 0, 0, 0, 0, 7, 0, 0, 0, 1⟩ : S25)] : List (S25))) 4 0 0 0 0 7 0 0 0 1 1).bind fun t161 => ((chamberlainref12_Events.f k t161 (([(⟨4, 0, 0, 0, 0, 7, 0, 0, 0, 1⟩ : S25), (⟨4, 0, 0, 0, 0, 7, 0, 0, 0, 1⟩ : S25)] : List (S25)))).bind fun t167 => (some t167))) else (some false))) else (some false))))) = some r := by first | (rw [hy146]; with_reducible exact H) | (have H2_ := (Option.bind_some _ _).symm.trans H; rw [hy146]; with_reducible exact H2_) | (have H2_ := (Option.bind_some _ _).symm.trans H; with_reducible exact H2_) | with_reducible exact H | (rw [hy146]; exact H) | exact H
    have Ny146 := Aside0.mk hy146
    clear hy146
    replace H := Option.bind_eq_some_iff.mp H
    obtain ⟨t149, A160, H⟩ := H
    replace H : (if t149 = true then (some false) else ((log_Match.f (([(⟨4, 0, 0, 0, 0, 7, 0, 0, 0, 1⟩ : S25)] : List (S25))) (([(⟨3, 0, 0, 0, 0, 7, 0, 0, 0, 2⟩ : S25), (⟨3, 0, 0, 0, 0, 7, 0, 0, 0, 2⟩ : S25)] : List (S25))) 32).bind fun t156 => (if t156 = true then ((log_Match.f ([] : List (S25)) ([] : List (S25)) 511).bind fun t157 => (if t157 = true then ((log_Select.f k (([(⟨4, 0, 0, 0, 0, 7, 0, 0, 0, 1⟩ : S25), (⟨3, 0, 0, 0, 0, 7, 0, 0, 0, 2⟩ : S25), (⟨4, 0, 0, 0, 0, 7, 0, 0, 0, 1⟩ : S25)] : List (S25))) 4 0 0 0 0 7 0 0 0 1 1).bind fun t161 => ((chamberlainref12_Events.f k t161 (([(⟨4, 0, 0, 0, 0, 7, 0, 0, 0, 1⟩ : S25), (⟨4, 0, 0, 0, 0, 7, 0, 0, 0, 1⟩ : S25)] : List (S25)))).bind fun t167 => (some t167))) else (some false))) else (some false)))) = some r := H
    have A16 := Aside0.mk A160
    clear A160
    by_cases c17 : t149 = true
    ·
     subst c17
     have H1 : (some false) = some r := by rw [if_pos rfl] at H; exact H
     clear H
     have H := H1
     clear H1
     exact absurd (hT.out.symm.trans (Option.some.inj H).symm) (by decide)
    ·
     replace c17 := Bool.eq_false_iff.mpr c17
     subst c17
     have H1 : ((log_Match.f (([(⟨4, 0, 0, 0, 0, 7, 0, 0, 0, 1⟩ : S25)] : List (S25))) (([(⟨3, 0, 0, 0, 0, 7, 0, 0, 0, 2⟩ : S25), (⟨3, 0, 0, 0, 0, 7, 0, 0, 0, 2⟩ : S25)] : List (S25))) 32).bind fun t156 => (if t156 = true then ((log_Match.f ([] : List (S25)) ([] : List (S25)) 511).bind fun t157 => (if t157 = true then ((log_Select.f k (([(⟨4, 0, 0, 0, 0, 7, 0, 0, 0, 1⟩ : S25), (⟨3, 0, 0, 0, 0, 7, 0, 0, 0, 2⟩ : S25), (⟨4, 0, 0, 0, 0, 7, 0, 0, 0, 1⟩ : S25)] : List (S25))) 4 0 0 0 0 7 0 0 0 1 1).bind fun t161 => ((chamberlainref12_Events.f k t161 (([(⟨4, 0, 0, 0, 0, 7, 0, 0, 0, 1⟩ : S25), (⟨4, 0, 0, 0, 0, 7, 0, 0, 0, 1⟩ : S25)] : List (S25)))).bind fun t167 => (some t167))) else (some false))) else (some false))) = some r := by rw [if_neg (show ¬ (false = true) by decide)] at H; exact H
     clear H
     have H := H1
     clear H1
     obtain ⟨y150, hy150⟩ : ∃ y_ : List (S25), y_ = (([(⟨4, 0, 0, 0, 0, 7, 0, 0, 0, 1⟩ : S25)] : List (S25))) := ⟨_, rfl⟩
     replace H : ((log_Match.f y150 (([(⟨3, 0, 0, 0, 0, 7, 0, 0, 0, 2⟩ : S25), (⟨3, 0, 0, 0, 0, 7, 0, 0, 0, 2⟩ : S25)] : List (S25))) 32).bind fun t156 => (if t156 = true then ((log_Match.f ([] : List (S25)) ([] : List (S25)) 511).bind fun t157 => (if t157 = true then ((log_Select.f k (([(⟨4, 0, 0, 0, 0, 7, 0, 0, 0, 1⟩ : S25), (⟨3, 0, 0, 0, 0, 7, 0, 0, 0, 2⟩ : S25), (⟨4, 0, 0, 0, 0, 7, 0, 0, 0, 1⟩ : S25)] : List (S25))) 4 0 0 0 0 7 0 0 0 1 1).bind fun t161 => ((chamberlainref12_Events.f k t161 (([(⟨4, 0, 0, 0, 0, 7, 0, 0, 0, 1⟩ : S25), (⟨4, 0, 0, 0, 0, 7, 0, 0, 0, 1⟩ : S25)] : List (S25)))).bind fun t167 => (some t167))) else (some false))) else (some false))) = some r := by first | (rw [hy150]; with_reducible exact H) | (have H2_ := (Option.bind_some _ _).symm.trans H; rw [hy150]; with_reducible exact H2_) | (have H2_ := (Option.bind_some _ _).symm.trans H; with_reducible exact H2_) | with_reducible exact H | (rw [hy150]; exact H) | exact H
     have Ny150 := Aside0.mk hy150
     clear hy150
     obtain ⟨y153, hy153⟩ : ∃ y_ : List (S25), y_ = (([(⟨3, 0, 0, 0, 0, 7, 0, 0, 0, 2⟩ : S25), (⟨3, 0, 0, 0, 0, 7, 0, 0, 0, 2⟩ : S25)] : List (S25))) := ⟨_, rfl⟩
     replace H : ((log_Match.f y150 y153 32).bind fun t156 => (if t156 = true then ((log_Match.f ([] : List (S25)) ([] : List (S25)) 511).bind fun t157 => (if t157 = true then ((log_Select.f k (([(⟨4, 0, 0, 0, 0, 7, 0, 0, 0, 1⟩ : S25), (⟨3, 0, 0, 0, 0, 7, 0, 0, 0, 2⟩ : S25), (⟨4, 0, 0, 0, 0, 7, 0, 0, 0, 1⟩ : S25)] : List (S25))) 4 0 0 0 0 7 0 0 0 1 1).bind fun t161 => ((chamberlainref12_Events.f k t161 (([(⟨4, 0, 0, 0, 0, 7, 0, 0, 0, 1⟩ : S25), (⟨4, 0, 0, 0, 0, 7, 0, 0, 0, 1⟩ : S25)] : List (S25)))).bind fun t167 => (some t167))) else (some false))) else (some false))) = some r := by first | (rw [hy153]; with_reducible exact H) | (have H2_ := (Option.bind_some _ _).symm.trans H; rw [hy153]; with_reducible exact H2_) | (have H2_ := (Option.bind_some _ _).symm.trans H; with_reducible exact H2_) | with_reducible exact H | (rw [hy153]; exact H) | exact H
     have Ny153 := Aside0.mk hy153
     clear hy153
     replace H := Option.bind_eq_some_iff.mp H
     obtain ⟨t156, A360, H⟩ := H
     replace H : (if t156 = true then ((log_Match.f ([] : List (S25)) ([] : List (S25)) 511).bind fun t157 => (if t157 = true then ((log_Select.f k (([(⟨4, 0, 0, 0, 0, 7, 0, 0, 0, 1⟩ : S25), (⟨3, 0, 0, 0, 0, 7, 0, 0, 0, 2⟩ : S25), (⟨4, 0, 0, 0, 0, 7, 0, 0, 0, 1⟩ : S25)] : List (S25))) 4 0 0 0 0 7 0 0 0 1 1).bind fun t161 => ((chamberlainref12_Events.f k t161 (([(⟨4, 0, 0, 0, 0, 7, 0, 0, 0, 1⟩ : S25), (⟨4, 0, 0, 0, 0, 7, 0, 0, 0, 1⟩ : S25)] : List (S25)))).bind fun t167 => (some t167))) else (some false))) else (some false)) = some r := H
     have A36 := Aside0.mk A360
     clear A360
     by_cases c37 : t156 = true
     ·
      subst c37
      have H1 : ((log_Match.f ([] : List (S25)) ([] : List (S25)) 511).bind fun t157 => (if t157 = true then ((log_Select.f k (([(⟨4, 0, 0, 0, 0, 7, 0, 0, 0, 1⟩ : S25), (⟨3, 0, 0, 0, 0, 7, 0, 0, 0, 2⟩ : S25), (⟨4, 0, 0, 0, 0, 7, 0, 0, 0, 1⟩ : S25)] : List (S25))) 4 0 0 0 0 7 0 0 0 1 1).bind fun t161 => ((chamberlainref12_Events.f k t161 (([(⟨4, 0, 0, 0, 0, 7, 0, 0, 0, 1⟩ : S25), (⟨4, 0, 0, 0, 0, 7, 0, 0, 0, 1⟩ : S25)] : List (S25)))).bind fun t167 => (some t167))) else (some false))) = some r := by rw [if_pos rfl] at H; exact H
      clear H
      have H := H1
      clear H1
      replace H := Option.bind_eq_some_iff.mp H
      obtain ⟨t157, A380, H⟩ := H
      replace H : (if t157 = true then ((log_Select.f k (([(⟨4, 0, 0, 0, 0, 7, 0, 0, 0, 1⟩ : S25), (⟨3, 0, 0, 0, 0, 7, 0, 0, 0, 2⟩ : S25), (⟨4, 0, 0, 0, 0, 7, 0, 0, 0, 1⟩ : S25)] : List (S25))) 4 0 0 0 0 7 0 0 0 1 1).bind fun t161 => ((chamberlainref12_Events.f k t161 (([(⟨4, 0, 0, 0, 0, 7, 0, 0, 0, 1⟩ : S25), (⟨4, 0, 0, 0, 0, 7, 0, 0, 0, 1⟩ : S25)] : List (S25)))).bind fun t167 => (some t167))) else (some false)) = some r := H
      have A38 := Aside0.mk A380
      clear A380
      by_cases c39 : t157 = true
      ·
       subst c39
       have H1 : ((log_Select.f k (([(⟨4, 0, 0, 0, 0, 7, 0, 0, 0, 1⟩ : S25), (⟨3, 0, 0, 0, 0, 7, 0, 0, 0, 2⟩ : S25), (⟨4, 0, 0, 0, 0, 7, 0, 0, 0, 1⟩ : S25)] : List (S25))) 4 0 0 0 0 7 0 0 0 1 1).bind fun t161 => ((chamberlainref12_Events.f k t161 (([(⟨4, 0, 0, 0, 0, 7, 0, 0, 0, 1⟩ : S25), (⟨4, 0, 0, 0, 0, 7, 0, 0, 0, 1⟩ : S25)] : List (S25)))).bind fun t167 => (some t167))) = some r := by rw [if_pos rfl] at H; exact H
       clear H
       have H := H1
       clear H1
       obtain ⟨y158, hy158⟩ : ∃ y_ : List (S25), y_ = (([(⟨4, 0, 0, 0, 0, 7, 0, 0, 0, 1⟩ : S25), (⟨3, 0, 0, 0, 0, 7, 0, 0, 0, 2⟩ : S25), (⟨4, 0, 0, 0, 0, 7, 0, 0, 0, 1⟩ : S25)] : List (S25))) := ⟨_, rfl⟩
       replace H : ((log_Select.f k y158 4 0 0 0 0 7 0 0 0 1 1).bind fun t161 => ((chamberlainref12_Events.f k t161 (([(⟨4, 0, 0, 0, 0, 7, 0, 0, 0, 1⟩ : S25), (⟨4, 0, 0, 0, 0, 7, 0, 0, 0, 1⟩ : S25)] : List (S25)))).bind fun t167 => (some t167))) = some r := by first | (rw [hy158]; with_reducible exact H) | (have H2_ := (Option.bind_some _ _).symm.trans H; rw [hy158]; with_reducible exact H2_) | (have H2_ := (Option.bind_some _ _).symm.trans H; with_reducible exact H2_) | with_reducible exact H | (rw [hy158]; exact H) | exact H
       have Ny158 := Aside0.mk hy158
       clear hy158
       replace H := Option.bind_eq_some_iff.mp H
       obtain ⟨t161, A400, H⟩ := H
       replace H : ((chamberlainref12_Events.f k t161 (([(⟨4, 0, 0, 0, 0, 7, 0, 0, 0, 1⟩ : S25), (⟨4, 0, 0, 0, 0, 7, 0, 0, 0, 1⟩ : S25)] : List (S25)))).bind fun t167 => (some t167)) = some r := H
       have A40 := Aside0.mk A400
       clear A400
       obtain ⟨y164, hy164⟩ : ∃ y_ : List (S25), y_ = (([(⟨4, 0, 0, 0, 0, 7, 0, 0, 0, 1⟩ : S25), (⟨4, 0, 0, 0, 0, 7, 0, 0, 0, 1⟩ : S25)] : List (S25))) := ⟨_, rfl⟩
       replace H : ((chamberlainref12_Events.f k t161 y164).bind fun t167 => (some t167)) = some r := by first | (rw [hy164]; with_reducible exact H) | (have H2_ := (Option.bind_some _ _).symm.trans H; rw [hy164]; with_reducible exact H2_) | (have H2_ := (Option.bind_some _ _).symm.trans H; with_reducible exact H2_) | with_reducible exact H | (rw [hy164]; exact H) | exact H
       have Ny164 := Aside0.mk hy164
       clear hy164
       replace H := Option.bind_eq_some_iff.mp H
       obtain ⟨t167, A410, H⟩ := H
       replace H : (some t167) = some r := H
       have A41 := Aside0.mk A410
       clear A410
       obtain rfl := Option.some.inj H
       go_enter Try.func9, Try.ntmps9
       try go_wp2_with (first | ((with_reducible refine gate_dst (N := 1) rfl ?_); (try (refine gate_guard (by rfl) ?_; dsimp only)); refine box_event ?hg (N := 1) ?hd (cs := #[.int .i64 0, .int .i64 0, .int .i64 0, .int .u32 0, .int .u32 0, .int .u32 0, .int .u32 0, .int .u32 0, .int .u32 0, .int .u32 0]) (t := 25) ?hr ?_; (case hd => rfl); (case hg => rfl); (case hr => first | (go_simp; done) | (go_simp; rfl)); intro gb138 hg w42 hbox hb; have n0_ := Aside0.mk (below_step (by repeat (first | (with_reducible first | exact HB.out | apply below_alloc | apply pw_below_drewN | apply below_drew1) | exact HB.out)) hb); have n1_ := Aside0.mk (hbox); have n2_ := Aside0.mk ((by rw [hg]; exact (below_size (by repeat (first | (with_reducible first | exact HB.out | apply below_alloc | apply pw_below_drewN | apply below_drew1) | exact HB.out))) : w.heap.size ≤ gb138)); have n3_ := Aside0.mk ((by rw [hg]; exact (below_size (by repeat (first | (with_reducible first | exact HB.out | apply below_alloc | apply pw_below_drewN | apply below_drew1) | exact HB.out))) : w.heap.size ≤ gb138)); clear HB; have HB := n0_; have BK138 := n1_; have GW138 := n2_; have GE138 := n3_; clear n0_ n1_ n2_ n3_; clear hb hbox hg; have hcz43_0 : w42.cell? ⟨gb138, 0, none⟩ = some (.int .i64 0) := (blk_cell BK138.out 0).trans rfl; have hcz43_1 : w42.cell? ⟨gb138, 1, none⟩ = some (.int .i64 0) := (blk_cell BK138.out 1).trans rfl; have hcz43_2 : w42.cell? ⟨gb138, 2, none⟩ = some (.int .i64 0) := (blk_cell BK138.out 2).trans rfl; have hcz43_3 : w42.cell? ⟨gb138, 3, none⟩ = some (.int .u32 0) := (blk_cell BK138.out 3).trans rfl; have hcz43_4 : w42.cell? ⟨gb138, 4, none⟩ = some (.int .u32 0) := (blk_cell BK138.out 4).trans rfl; have hcz43_5 : w42.cell? ⟨gb138, 5, none⟩ = some (.int .u32 0) := (blk_cell BK138.out 5).trans rfl; have hcz43_6 : w42.cell? ⟨gb138, 6, none⟩ = some (.int .u32 0) := (blk_cell BK138.out 6).trans rfl; have hcz43_7 : w42.cell? ⟨gb138, 7, none⟩ = some (.int .u32 0) := (blk_cell BK138.out 7).trans rfl; have hcz43_8 : w42.cell? ⟨gb138, 8, none⟩ = some (.int .u32 0) := (blk_cell BK138.out 8).trans rfl; have hcz43_9 : w42.cell? ⟨gb138, 9, none⟩ = some (.int .u32 0) := (blk_cell BK138.out 9).trans rfl; have hfz43_0 := blk_frozen BK138.out 0; have hfz43_1 := blk_frozen BK138.out 1; have hfz43_2 := blk_frozen BK138.out 2; have hfz43_3 := blk_frozen BK138.out 3; have hfz43_4 := blk_frozen BK138.out 4; have hfz43_5 := blk_frozen BK138.out 5; have hfz43_6 := blk_frozen BK138.out 6; have hfz43_7 := blk_frozen BK138.out 7; have hfz43_8 := blk_frozen BK138.out 8; have hfz43_9 := blk_frozen BK138.out 9) | ((with_reducible refine gate_dst (N := 2) rfl ?_); (try (refine gate_guard (by rfl) ?_; dsimp only)); refine box_event ?hg (N := 2) ?hd (cs := #[.int .i64 0, .int .i64 0, .int .i64 0, .int .u32 0, .int .u32 0, .int .u32 0, .int .u32 0, .int .u32 0, .int .u32 0, .int .u32 0]) (t := 25) ?hr ?_; (case hd => rfl); (case hg => rfl); (case hr => first | (go_simp; done) | (go_simp; rfl)); intro gb139 hg w44 hbox hb; have n0_ := Aside0.mk (blk_below (g := gb138) (o := .cells vA0 25 (0, 0)) (by (with_reducible repeat (first | refine blk_drewN ?_ _ | refine blk_drew ?_ | refine blk_alloc ?_ _)); refine blk_put (cs := vA3) ?_ 9 _ rfl; (with_reducible repeat (first | refine blk_drewN ?_ _ | refine blk_drew ?_ | refine blk_alloc ?_ _)); refine blk_put (cs := vA3) ?_ 8 _ rfl; (with_reducible repeat (first | refine blk_drewN ?_ _ | refine blk_drew ?_ | refine blk_alloc ?_ _)); refine blk_put (cs := vA3) ?_ 7 _ rfl; (with_reducible repeat (first | refine blk_drewN ?_ _ | refine blk_drew ?_ | refine blk_alloc ?_ _)); refine blk_put (cs := vA3) ?_ 6 _ rfl; (with_reducible repeat (first | refine blk_drewN ?_ _ | refine blk_drew ?_ | refine blk_alloc ?_ _)); refine blk_put (cs := vA2) ?_ 5 _ rfl; (with_reducible repeat (first | refine blk_drewN ?_ _ | refine blk_drew ?_ | refine blk_alloc ?_ _)); refine blk_put (cs := vA2) ?_ 4 _ rfl; (with_reducible repeat (first | refine blk_drewN ?_ _ | refine blk_drew ?_ | refine blk_alloc ?_ _)); refine blk_put (cs := vA2) ?_ 3 _ rfl; (with_reducible repeat (first | refine blk_drewN ?_ _ | refine blk_drew ?_ | refine blk_alloc ?_ _)); refine blk_put (cs := vA2) ?_ 2 _ rfl; (with_reducible repeat (first | refine blk_drewN ?_ _ | refine blk_drew ?_ | refine blk_alloc ?_ _)); refine blk_put (cs := vA2) ?_ 1 _ rfl; (with_reducible repeat (first | refine blk_drewN ?_ _ | refine blk_drew ?_ | refine blk_alloc ?_ _)); refine blk_put (cs := #[.int .i64 0, .int .i64 0, .int .i64 0, .int .u32 0, .int .u32 0, .int .u32 0, .int .u32 0, .int .u32 0, .int .u32 0, .int .u32 0]) ?_ 0 _ rfl; (with_reducible repeat (first | refine blk_drewN ?_ _ | refine blk_drew ?_ | refine blk_alloc ?_ _)); exact BK138.out) hb); have n1_ := Aside0.mk (below_step (by repeat (first | (with_reducible first | exact HB.out | apply below_alloc | apply pw_below_drewN | apply below_drew1 | refine below_set ?_ GE138.out) | exact HB.out)) hb); have n2_ := Aside0.mk (hbox); have n3_ := Aside0.mk ((by rw [hg]; exact (below_size (by repeat (first | (with_reducible first | exact HB.out | apply below_alloc | apply pw_below_drewN | apply below_drew1 | refine below_set ?_ GE138.out) | exact HB.out))) : w.heap.size ≤ gb139)); have n4_ := Aside0.mk ((by rw [hg]; exact (below_size (by repeat (first | (with_reducible first | exact HB.out | apply below_alloc | apply pw_below_drewN | apply below_drew1 | refine below_set ?_ GE138.out) | exact HB.out))) : w.heap.size ≤ gb139)); have n5_ := Aside0.mk ((by rw [hg]; exact Nat.ne_of_lt (blk_lt (g := gb138) (o := .cells vA0 25 (0, 0)) (by (with_reducible repeat (first | refine blk_drewN ?_ _ | refine blk_drew ?_ | refine blk_alloc ?_ _)); refine blk_put (cs := vA3) ?_ 9 _ rfl; (with_reducible repeat (first | refine blk_drewN ?_ _ | refine blk_drew ?_ | refine blk_alloc ?_ _)); refine blk_put (cs := vA3) ?_ 8 _ rfl; (with_reducible repeat (first | refine blk_drewN ?_ _ | refine blk_drew ?_ | refine blk_alloc ?_ _)); refine blk_put (cs := vA3) ?_ 7 _ rfl; (with_reducible repeat (first | refine blk_drewN ?_ _ | refine blk_drew ?_ | refine blk_alloc ?_ _)); refine blk_put (cs := vA3) ?_ 6 _ rfl; (with_reducible repeat (first | refine blk_drewN ?_ _ | refine blk_drew ?_ | refine blk_alloc ?_ _)); refine blk_put (cs := vA2) ?_ 5 _ rfl; (with_reducible repeat (first | refine blk_drewN ?_ _ | refine blk_drew ?_ | refine blk_alloc ?_ _)); refine blk_put (cs := vA2) ?_ 4 _ rfl; (with_reducible repeat (first | refine blk_drewN ?_ _ | refine blk_drew ?_ | refine blk_alloc ?_ _)); refine blk_put (cs := vA2) ?_ 3 _ rfl; (with_reducible repeat (first | refine blk_drewN ?_ _ | refine blk_drew ?_ | refine blk_alloc ?_ _)); refine blk_put (cs := vA2) ?_ 2 _ rfl; (with_reducible repeat (first | refine blk_drewN ?_ _ | refine blk_drew ?_ | refine blk_alloc ?_ _)); refine blk_put (cs := vA2) ?_ 1 _ rfl; (with_reducible repeat (first | refine blk_drewN ?_ _ | refine blk_drew ?_ | refine blk_alloc ?_ _)); refine blk_put (cs := #[.int .i64 0, .int .i64 0, .int .i64 0, .int .u32 0, .int .u32 0, .int .u32 0, .int .u32 0, .int .u32 0, .int .u32 0, .int .u32 0]) ?_ 0 _ rfl; (with_reducible repeat (first | refine blk_drewN ?_ _ | refine blk_drew ?_ | refine blk_alloc ?_ _)); exact BK138.out)) : gb138 ≠ gb139)); have n6_ := Aside0.mk ((by rw [hg]; exact Nat.ne_of_gt (blk_lt (g := gb138) (o := .cells vA0 25 (0, 0)) (by (with_reducible repeat (first | refine blk_drewN ?_ _ | refine blk_drew ?_ | refine blk_alloc ?_ _)); refine blk_put (cs := vA3) ?_ 9 _ rfl; (with_reducible repeat (first | refine blk_drewN ?_ _ | refine blk_drew ?_ | refine blk_alloc ?_ _)); refine blk_put (cs := vA3) ?_ 8 _ rfl; (with_reducible repeat (first | refine blk_drewN ?_ _ | refine blk_drew ?_ | refine blk_alloc ?_ _)); refine blk_put (cs := vA3) ?_ 7 _ rfl; (with_reducible repeat (first | refine blk_drewN ?_ _ | refine blk_drew ?_ | refine blk_alloc ?_ _)); refine blk_put (cs := vA3) ?_ 6 _ rfl; (with_reducible repeat (first | refine blk_drewN ?_ _ | refine blk_drew ?_ | refine blk_alloc ?_ _)); refine blk_put (cs := vA2) ?_ 5 _ rfl; (with_reducible repeat (first | refine blk_drewN ?_ _ | refine blk_drew ?_ | refine blk_alloc ?_ _)); refine blk_put (cs := vA2) ?_ 4 _ rfl; (with_reducible repeat (first | refine blk_drewN ?_ _ | refine blk_drew ?_ | refine blk_alloc ?_ _)); refine blk_put (cs := vA2) ?_ 3 _ rfl; (with_reducible repeat (first | refine blk_drewN ?_ _ | refine blk_drew ?_ | refine blk_alloc ?_ _)); refine blk_put (cs := vA2) ?_ 2 _ rfl; (with_reducible repeat (first | refine blk_drewN ?_ _ | refine blk_drew ?_ | refine blk_alloc ?_ _)); refine blk_put (cs := vA2) ?_ 1 _ rfl; (with_reducible repeat (first | refine blk_drewN ?_ _ | refine blk_drew ?_ | refine blk_alloc ?_ _)); refine blk_put (cs := #[.int .i64 0, .int .i64 0, .int .i64 0, .int .u32 0, .int .u32 0, .int .u32 0, .int .u32 0, .int .u32 0, .int .u32 0, .int .u32 0]) ?_ 0 _ rfl; (with_reducible repeat (first | refine blk_drewN ?_ _ | refine blk_drew ?_ | refine blk_alloc ?_ _)); exact BK138.out)) : gb139 ≠ gb138)); clear BK138; clear HB; have BK138 := n0_; have HB := n1_; have BK139 := n2_; have GW139 := n3_; have GE139 := n4_; have NB138_139 := n5_; have NB139_138 := n6_; clear n0_ n1_ n2_ n3_ n4_ n5_ n6_; clear hb hbox hg; have hnb45 := NB139_138.out; have hnc45 := NB138_139.out; have hcz46_0 : w44.cell? ⟨gb139, 0, none⟩ = some (.int .i64 0) := (blk_cell BK139.out 0).trans rfl; have hcz46_1 : w44.cell? ⟨gb139, 1, none⟩ = some (.int .i64 0) := (blk_cell BK139.out 1).trans rfl; have hcz46_2 : w44.cell? ⟨gb139, 2, none⟩ = some (.int .i64 0) := (blk_cell BK139.out 2).trans rfl; have hcz46_3 : w44.cell? ⟨gb139, 3, none⟩ = some (.int .u32 0) := (blk_cell BK139.out 3).trans rfl; have hcz46_4 : w44.cell? ⟨gb139, 4, none⟩ = some (.int .u32 0) := (blk_cell BK139.out 4).trans rfl; have hcz46_5 : w44.cell? ⟨gb139, 5, none⟩ = some (.int .u32 0) := (blk_cell BK139.out 5).trans rfl; have hcz46_6 : w44.cell? ⟨gb139, 6, none⟩ = some (.int .u32 0) := (blk_cell BK139.out 6).trans rfl; have hcz46_7 : w44.cell? ⟨gb139, 7, none⟩ = some (.int .u32 0) := (blk_cell BK139.out 7).trans rfl; have hcz46_8 : w44.cell? ⟨gb139, 8, none⟩ = some (.int .u32 0) := (blk_cell BK139.out 8).trans rfl; have hcz46_9 : w44.cell? ⟨gb139, 9, none⟩ = some (.int .u32 0) := (blk_cell BK139.out 9).trans rfl; have hfz46_0 := blk_frozen BK139.out 0; have hfz46_1 := blk_frozen BK139.out 1; have hfz46_2 := blk_frozen BK139.out 2; have hfz46_3 := blk_frozen BK139.out 3; have hfz46_4 := blk_frozen BK139.out 4; have hfz46_5 := blk_frozen BK139.out 5; have hfz46_6 := blk_frozen BK139.out 6; have hfz46_7 := blk_frozen BK139.out 7; have hfz46_8 := blk_frozen BK139.out 8; have hfz46_9 := blk_frozen BK139.out 9))
       have n0_ : Aside0 (((((((((((w44.setCell ⟨gb139, 0, none⟩ (.int .i64 3)).setCell ⟨gb139, 1, none⟩ (.int .i64 0)).setCell ⟨gb139, 2, none⟩ (.int .i64 0)).setCell ⟨gb139, 3, none⟩ (.int .u32 0)).setCell ⟨gb139, 4, none⟩ (.int .u32 0)).setCell ⟨gb139, 5, none⟩ (.int .u32 7)).setCell ⟨gb139, 6, none⟩ (.int .u32 0)).setCell ⟨gb139, 7, none⟩ (.int .u32 0)).setCell ⟨gb139, 8, none⟩ (.int .u32 0)).setCell ⟨gb139, 9, none⟩ (.int .u32 2)).heap[gb138]? = some (.cells vA0 25 (0, 0))) := ⟨by (with_reducible repeat (first | refine blk_drewN ?_ _ | refine blk_drew ?_ | refine blk_alloc ?_ _)); refine blk_far ?_ NB138_139.out _; (with_reducible repeat (first | refine blk_drewN ?_ _ | refine blk_drew ?_ | refine blk_alloc ?_ _)); refine blk_far ?_ NB138_139.out _; (with_reducible repeat (first | refine blk_drewN ?_ _ | refine blk_drew ?_ | refine blk_alloc ?_ _)); refine blk_far ?_ NB138_139.out _; (with_reducible repeat (first | refine blk_drewN ?_ _ | refine blk_drew ?_ | refine blk_alloc ?_ _)); refine blk_far ?_ NB138_139.out _; (with_reducible repeat (first | refine blk_drewN ?_ _ | refine blk_drew ?_ | refine blk_alloc ?_ _)); refine blk_far ?_ NB138_139.out _; (with_reducible repeat (first | refine blk_drewN ?_ _ | refine blk_drew ?_ | refine blk_alloc ?_ _)); refine blk_far ?_ NB138_139.out _; (with_reducible repeat (first | refine blk_drewN ?_ _ | refine blk_drew ?_ | refine blk_alloc ?_ _)); refine blk_far ?_ NB138_139.out _; (with_reducible repeat (first | refine blk_drewN ?_ _ | refine blk_drew ?_ | refine blk_alloc ?_ _)); refine blk_far ?_ NB138_139.out _; (with_reducible repeat (first | refine blk_drewN ?_ _ | refine blk_drew ?_ | refine blk_alloc ?_ _)); refine blk_far ?_ NB138_139.out _; (with_reducible repeat (first | refine blk_drewN ?_ _ | refine blk_drew ?_ | refine blk_alloc ?_ _)); refine blk_far ?_ NB138_139.out _; (with_reducible repeat (first | refine blk_drewN ?_ _ | refine blk_drew ?_ | refine blk_alloc ?_ _)); exact BK138.out⟩
       have n1_ : Aside0 (((((((((((w44.setCell ⟨gb139, 0, none⟩ (.int .i64 3)).setCell ⟨gb139, 1, none⟩ (.int .i64 0)).setCell ⟨gb139, 2, none⟩ (.int .i64 0)).setCell ⟨gb139, 3, none⟩ (.int .u32 0)).setCell ⟨gb139, 4, none⟩ (.int .u32 0)).setCell ⟨gb139, 5, none⟩ (.int .u32 7)).setCell ⟨gb139, 6, none⟩ (.int .u32 0)).setCell ⟨gb139, 7, none⟩ (.int .u32 0)).setCell ⟨gb139, 8, none⟩ (.int .u32 0)).setCell ⟨gb139, 9, none⟩ (.int .u32 2)).heap[gb139]? = some (.cells vA1 25 (0, 0))) := ⟨by (with_reducible repeat (first | refine blk_drewN ?_ _ | refine blk_drew ?_ | refine blk_alloc ?_ _)); refine blk_put (cs := #[.int .i64 3, .int .i64 0, .int .i64 0, .int .u32 0, .int .u32 0, .int .u32 7, .int .u32 0, .int .u32 0, .int .u32 0, .int .u32 0]) ?_ 9 _ rfl; (with_reducible repeat (first | refine blk_drewN ?_ _ | refine blk_drew ?_ | refine blk_alloc ?_ _)); refine blk_put (cs := #[.int .i64 3, .int .i64 0, .int .i64 0, .int .u32 0, .int .u32 0, .int .u32 7, .int .u32 0, .int .u32 0, .int .u32 0, .int .u32 0]) ?_ 8 _ rfl; (with_reducible repeat (first | refine blk_drewN ?_ _ | refine blk_drew ?_ | refine blk_alloc ?_ _)); refine blk_put (cs := #[.int .i64 3, .int .i64 0, .int .i64 0, .int .u32 0, .int .u32 0, .int .u32 7, .int .u32 0, .int .u32 0, .int .u32 0, .int .u32 0]) ?_ 7 _ rfl; (with_reducible repeat (first | refine blk_drewN ?_ _ | refine blk_drew ?_ | refine blk_alloc ?_ _)); refine blk_put (cs := #[.int .i64 3, .int .i64 0, .int .i64 0, .int .u32 0, .int .u32 0, .int .u32 7, .int .u32 0, .int .u32 0, .int .u32 0, .int .u32 0]) ?_ 6 _ rfl; (with_reducible repeat (first | refine blk_drewN ?_ _ | refine blk_drew ?_ | refine blk_alloc ?_ _)); refine blk_put (cs := #[.int .i64 3, .int .i64 0, .int .i64 0, .int .u32 0, .int .u32 0, .int .u32 0, .int .u32 0, .int .u32 0, .int .u32 0, .int .u32 0]) ?_ 5 _ rfl; (with_reducible repeat (first | refine blk_drewN ?_ _ | refine blk_drew ?_ | refine blk_alloc ?_ _)); refine blk_put (cs := #[.int .i64 3, .int .i64 0, .int .i64 0, .int .u32 0, .int .u32 0, .int .u32 0, .int .u32 0, .int .u32 0, .int .u32 0, .int .u32 0]) ?_ 4 _ rfl; (with_reducible repeat (first | refine blk_drewN ?_ _ | refine blk_drew ?_ | refine blk_alloc ?_ _)); refine blk_put (cs := #[.int .i64 3, .int .i64 0, .int .i64 0, .int .u32 0, .int .u32 0, .int .u32 0, .int .u32 0, .int .u32 0, .int .u32 0, .int .u32 0]) ?_ 3 _ rfl; (with_reducible repeat (first | refine blk_drewN ?_ _ | refine blk_drew ?_ | refine blk_alloc ?_ _)); refine blk_put (cs := #[.int .i64 3, .int .i64 0, .int .i64 0, .int .u32 0, .int .u32 0, .int .u32 0, .int .u32 0, .int .u32 0, .int .u32 0, .int .u32 0]) ?_ 2 _ rfl; (with_reducible repeat (first | refine blk_drewN ?_ _ | refine blk_drew ?_ | refine blk_alloc ?_ _)); refine blk_put (cs := #[.int .i64 3, .int .i64 0, .int .i64 0, .int .u32 0, .int .u32 0, .int .u32 0, .int .u32 0, .int .u32 0, .int .u32 0, .int .u32 0]) ?_ 1 _ rfl; (with_reducible repeat (first | refine blk_drewN ?_ _ | refine blk_drew ?_ | refine blk_alloc ?_ _)); refine blk_put (cs := #[.int .i64 0, .int .i64 0, .int .i64 0, .int .u32 0, .int .u32 0, .int .u32 0, .int .u32 0, .int .u32 0, .int .u32 0, .int .u32 0]) ?_ 0 _ rfl; (with_reducible repeat (first | refine blk_drewN ?_ _ | refine blk_drew ?_ | refine blk_alloc ?_ _)); exact BK139.out⟩
       have n2_ : Aside0 (Below w.heap.size w ((((((((((w44.setCell ⟨gb139, 0, none⟩ (.int .i64 3)).setCell ⟨gb139, 1, none⟩ (.int .i64 0)).setCell ⟨gb139, 2, none⟩ (.int .i64 0)).setCell ⟨gb139, 3, none⟩ (.int .u32 0)).setCell ⟨gb139, 4, none⟩ (.int .u32 0)).setCell ⟨gb139, 5, none⟩ (.int .u32 7)).setCell ⟨gb139, 6, none⟩ (.int .u32 0)).setCell ⟨gb139, 7, none⟩ (.int .u32 0)).setCell ⟨gb139, 8, none⟩ (.int .u32 0)).setCell ⟨gb139, 9, none⟩ (.int .u32 2))) := ⟨by repeat (first | (with_reducible first | exact HB.out | apply below_alloc | apply pw_below_drewN | apply below_drew1 | refine below_set ?_ GE138.out | refine below_set ?_ GE139.out) | exact HB.out)⟩
       (try clear BK138)
       (try clear BK139)
       (try clear HB)
       generalize ((((((((((w44.setCell ⟨gb139, 0, none⟩ (.int .i64 3)).setCell ⟨gb139, 1, none⟩ (.int .i64 0)).setCell ⟨gb139, 2, none⟩ (.int .i64 0)).setCell ⟨gb139, 3, none⟩ (.int .u32 0)).setCell ⟨gb139, 4, none⟩ (.int .u32 0)).setCell ⟨gb139, 5, none⟩ (.int .u32 7)).setCell ⟨gb139, 6, none⟩ (.int .u32 0)).setCell ⟨gb139, 7, none⟩ (.int .u32 0)).setCell ⟨gb139, 8, none⟩ (.int .u32 0)).setCell ⟨gb139, 9, none⟩ (.int .u32 2)) = w47 at n0_ n1_ n2_ ⊢
       have BK138 := n0_
       have BK139 := n1_
       have HB := n2_
       clear n0_ n1_ n2_
       have n0_ := Aside0.mk (blk_drew BK138.out)
       have n1_ := Aside0.mk (blk_drew BK139.out)
       have n2_ := Aside0.mk (below_drew1 HB.out)
       clear BK138
       clear BK139
       clear HB
       have BK138 := n0_
       have BK139 := n1_
       have HB := n2_
       clear n0_ n1_ n2_
       refine start_ (n := 47) (S := fun w' => w'.cell? ⟨gb138, 0, none⟩ = some (.int .i64 4) ∧ w'.cell? ⟨gb138, 1, none⟩ = some (.int .i64 0) ∧ w'.cell? ⟨gb138, 2, none⟩ = some (.int .i64 0) ∧ w'.cell? ⟨gb138, 3, none⟩ = some (.int .u32 0) ∧ w'.cell? ⟨gb138, 4, none⟩ = some (.int .u32 0) ∧ w'.cell? ⟨gb138, 5, none⟩ = some (.int .u32 7) ∧ w'.cell? ⟨gb138, 6, none⟩ = some (.int .u32 0) ∧ w'.cell? ⟨gb138, 7, none⟩ = some (.int .u32 0) ∧ w'.cell? ⟨gb138, 8, none⟩ = some (.int .u32 0) ∧ w'.cell? ⟨gb138, 9, none⟩ = some (.int .u32 1) ∧ w'.cell? ⟨gb139, 0, none⟩ = some (.int .i64 3) ∧ w'.cell? ⟨gb139, 1, none⟩ = some (.int .i64 0) ∧ w'.cell? ⟨gb139, 2, none⟩ = some (.int .i64 0) ∧ w'.cell? ⟨gb139, 3, none⟩ = some (.int .u32 0) ∧ w'.cell? ⟨gb139, 4, none⟩ = some (.int .u32 0) ∧ w'.cell? ⟨gb139, 5, none⟩ = some (.int .u32 7) ∧ w'.cell? ⟨gb139, 6, none⟩ = some (.int .u32 0) ∧ w'.cell? ⟨gb139, 7, none⟩ = some (.int .u32 0) ∧ w'.cell? ⟨gb139, 8, none⟩ = some (.int .u32 0) ∧ w'.cell? ⟨gb139, 9, none⟩ = some (.int .u32 2)) (ds := []) #[Z,Z,Z,Z,Z,Z,Z,Z,Z,Z,Z,Z,Z,Z,Z,Z,Z,Z,Z,Z,Z,Z,Z,Z,Z,Z,Z,Z,Z,Z,Z,Z,Z,Z,Z,Z,Z,Z,Z,Z,Z,Z,Z,Z,Z,Z,Z] (by kernel_rfl) rfl rfl ⟨(blk_cell BK138.out 0).trans rfl, (blk_cell BK138.out 1).trans rfl, (blk_cell BK138.out 2).trans rfl, (blk_cell BK138.out 3).trans rfl, (blk_cell BK138.out 4).trans rfl, (blk_cell BK138.out 5).trans rfl, (blk_cell BK138.out 6).trans rfl, (blk_cell BK138.out 7).trans rfl, (blk_cell BK138.out 8).trans rfl, (blk_cell BK138.out 9).trans rfl, (blk_cell BK139.out 0).trans rfl, (blk_cell BK139.out 1).trans rfl, (blk_cell BK139.out 2).trans rfl, (blk_cell BK139.out 3).trans rfl, (blk_cell BK139.out 4).trans rfl, (blk_cell BK139.out 5).trans rfl, (blk_cell BK139.out 6).trans rfl, (blk_cell BK139.out 7).trans rfl, (blk_cell BK139.out 8).trans rfl, (blk_cell BK139.out 9).trans rfl⟩ (fun hHeld => ?_); refine with_tabW chamberlainlaw19_awake.tab3 chamberlainlaw19_awake.bits3 (fun HT_ HW_ => ?_)
       generalize w47.drew = w48 at BK138 BK139 HB hHeld ⊢
       refine take_ (i := 0) (N := some 5) (v := ?_) (a' := ?_) #[Y,Z,Z,Z,Z,Z,Z,Z,Z,Z,Z,Z,Z,Z,Z,Z,Z,Z,Z,Z,Z,Z,Z,Z,Z,Z,Z,Z,Z,Z,Z,Z,Z,Z,Z,Z,Z,Z,Z,Z,Z,Z,Z,Z,Z,Z,Z] rfl rfl (take_ofW HT_.out HW_.out (by kernel_rfl)) (fun _ _ _ h => h) (Or.inl ⟨by rfl, ?_⟩) hHeld ?_ ?_
       rotate_left
       ·
        rintro w' ⟨s0, s1, s2, s3, s4, s5, s6, s7, s8, s9, s10, s11, s12, s13, s14, s15, s16, s17, s18, s19⟩
        go_simp
        with_reducible rfl
       rotate_left
       ·
        simp only [Act.put, List.setIfInBounds_toArray, List.set_cons_zero, List.set_cons_succ, i64_w, i32_w]
        rfl
       refine take_ (i := 1) (N := some 6) (v := ?_) (a' := ?_) #[Y,Y,Z,Z,Z,Z,Z,Z,Z,Z,Z,Z,Z,Z,Z,Z,Z,Z,Z,Z,Z,Z,Z,Z,Z,Z,Z,Z,Z,Z,Z,Z,Z,Z,Z,Z,Z,Z,Z,Z,Z,Z,Z,Z,Z,Z,Z] rfl rfl (take_ofW HT_.out HW_.out (by kernel_rfl)) (fun _ _ _ h => h) (Or.inl ⟨by rfl, ?_⟩) hHeld ?_ ?_
       rotate_left
       ·
        rintro w' ⟨s0, s1, s2, s3, s4, s5, s6, s7, s8, s9, s10, s11, s12, s13, s14, s15, s16, s17, s18, s19⟩
        go_simp
        with_reducible rfl
       rotate_left
       ·
        simp only [Act.put, List.setIfInBounds_toArray, List.set_cons_zero, List.set_cons_succ, i64_w, i32_w]
        rfl
       refine one_ (i := 2) (N := some 7) #[Y,Y,Y,Z,Z,Z,Z,Z,Z,Z,Z,Z,Z,Z,Z,Z,Z,Z,Z,Z,Z,Z,Z,Z,Z,Z,Z,Z,Z,Z,Z,Z,Z,Z,Z,Z,Z,Z,Z,Z,Z,Z,Z,Z,Z,Z,Z] rfl rfl (one_of HT_.out (by kernel_rfl)) (by decide) (fun K hK => ?_)
       refine goes_ Try.func10 (by kernel_rfl) rfl #[.agg vA0, .agg vA1, .int .i64 32] (by rfl) rfl rfl (by (try simp only [List.map_toArray, List.map_cons, List.map_nil]); first | done | rfl | (simp only [List.length_drop, List.length_take]; rfl)) ?_
       with_reducible refine (log_Fits.calls 4 0 0 0 0 7 0 0 0 1 3 0 0 0 0 7 0 0 0 2 32 true _ A1.out).mono ?_
       rintro e w49 ⟨rfl, hb⟩
       refine ⟨_, rfl, ?_⟩
       have n0_ := Aside0.mk (blk_below (g := gb138) (o := .cells vA0 25 (0, 0)) (by (with_reducible repeat (first | refine blk_drewN ?_ _ | refine blk_drew ?_ | refine blk_alloc ?_ _)); exact BK138.out) hb)
       have n1_ := Aside0.mk (blk_below (g := gb139) (o := .cells vA1 25 (0, 0)) (by (with_reducible repeat (first | refine blk_drewN ?_ _ | refine blk_drew ?_ | refine blk_alloc ?_ _)); exact BK139.out) hb)
       have n2_ := Aside0.mk (below_step (by repeat (first | (with_reducible first | exact HB.out | apply below_alloc | apply pw_below_drewN | apply below_drew1 | refine below_set ?_ GE138.out | refine below_set ?_ GE139.out) | exact HB.out)) hb)
       clear BK138
       clear BK139
       clear HB
       have BK138 := n0_
       have BK139 := n1_
       have HB := n2_
       clear n0_ n1_ n2_
       (try clear hb)
       (try clear hb2)
       (try clear hk)
       (try clear hi)
       refine hK.out _ _ ⟨(blk_cell BK138.out 0).trans rfl, (blk_cell BK138.out 1).trans rfl, (blk_cell BK138.out 2).trans rfl, (blk_cell BK138.out 3).trans rfl, (blk_cell BK138.out 4).trans rfl, (blk_cell BK138.out 5).trans rfl, (blk_cell BK138.out 6).trans rfl, (blk_cell BK138.out 7).trans rfl, (blk_cell BK138.out 8).trans rfl, (blk_cell BK138.out 9).trans rfl, (blk_cell BK139.out 0).trans rfl, (blk_cell BK139.out 1).trans rfl, (blk_cell BK139.out 2).trans rfl, (blk_cell BK139.out 3).trans rfl, (blk_cell BK139.out 4).trans rfl, (blk_cell BK139.out 5).trans rfl, (blk_cell BK139.out 6).trans rfl, (blk_cell BK139.out 7).trans rfl, (blk_cell BK139.out 8).trans rfl, (blk_cell BK139.out 9).trans rfl⟩ (fun hHeld => ?_)
       clear hK K
       refine norm_ (a' := ?_) ?_ ?_
       rotate_left
       ·
        show Act.put _ (some 7) _ = _
        simp only [Act.put, List.setIfInBounds_toArray, List.set_cons_zero, List.set_cons_succ, i64_w, i32_w]
        rfl
       refine pure_ (i := 3) (N := some 8) (v := ?_) (a' := ?_) #[Y,Y,Y,Y,Z,Z,Z,Z,Z,Z,Z,Z,Z,Z,Z,Z,Z,Z,Z,Z,Z,Z,Z,Z,Z,Z,Z,Z,Z,Z,Z,Z,Z,Z,Z,Z,Z,Z,Z,Z,Z,Z,Z,Z,Z,Z,Z] rfl rfl (any_of HT_.out (by kernel_rfl)) (fun _ _ _ h => h) (Or.inl ⟨by rfl, ?_⟩) ?_ ?_
       rotate_left
       ·
        intro w'
        go_simp
        with_reducible rfl
       rotate_left
       ·
        simp only [Act.put, List.setIfInBounds_toArray, List.set_cons_zero, List.set_cons_succ, i64_w, i32_w]
        rfl
       refine take_ (i := 4) (N := some 9) (v := ?_) (a' := ?_) #[Y,Y,Y,Y,Y,Z,Z,Z,Z,Z,Z,Z,Z,Z,Z,Z,Z,Z,Z,Z,Z,Z,Z,Z,Z,Z,Z,Z,Z,Z,Z,Z,Z,Z,Z,Z,Z,Z,Z,Z,Z,Z,Z,Z,Z,Z,Z] rfl rfl (take_ofW HT_.out HW_.out (by kernel_rfl)) (fun _ _ _ h => h) (Or.inl ⟨by rfl, ?_⟩) hHeld ?_ ?_
       rotate_left
       ·
        rintro w' ⟨s0, s1, s2, s3, s4, s5, s6, s7, s8, s9, s10, s11, s12, s13, s14, s15, s16, s17, s18, s19⟩
        go_simp
        with_reducible rfl
       rotate_left
       ·
        simp only [Act.put, List.setIfInBounds_toArray, List.set_cons_zero, List.set_cons_succ, i64_w, i32_w]
        rfl
       refine take_ (i := 5) (N := some 10) (v := ?_) (a' := ?_) #[Y,Y,Y,Y,Y,Y,Z,Z,Z,Z,Z,Z,Z,Z,Z,Z,Z,Z,Z,Z,Z,Z,Z,Z,Z,Z,Z,Z,Z,Z,Z,Z,Z,Z,Z,Z,Z,Z,Z,Z,Z,Z,Z,Z,Z,Z,Z] rfl rfl (take_ofW HT_.out HW_.out (by kernel_rfl)) (fun _ _ _ h => h) (Or.inl ⟨by rfl, ?_⟩) hHeld ?_ ?_
       rotate_left
       ·
        rintro w' ⟨s0, s1, s2, s3, s4, s5, s6, s7, s8, s9, s10, s11, s12, s13, s14, s15, s16, s17, s18, s19⟩
        go_simp
        with_reducible rfl
       rotate_left
       ·
        simp only [Act.put, List.setIfInBounds_toArray, List.set_cons_zero, List.set_cons_succ, i64_w, i32_w]
        rfl
       refine one_ (i := 6) (N := some 11) #[Y,Y,Y,Y,Y,Y,Y,Z,Z,Z,Z,Z,Z,Z,Z,Z,Z,Z,Z,Z,Z,Z,Z,Z,Z,Z,Z,Z,Z,Z,Z,Z,Z,Z,Z,Z,Z,Z,Z,Z,Z,Z,Z,Z,Z,Z,Z] rfl rfl (one_of HT_.out (by kernel_rfl)) (by decide) (fun K hK => ?_)
       refine goes_ Try.func10 (by kernel_rfl) rfl #[.agg vA0, .agg vA1, .int .i64 33] (by rfl) rfl rfl (by (try simp only [List.map_toArray, List.map_cons, List.map_nil]); first | done | rfl | (simp only [List.length_drop, List.length_take]; rfl)) ?_
       with_reducible refine (log_Fits.calls 4 0 0 0 0 7 0 0 0 1 3 0 0 0 0 7 0 0 0 2 33 false _ A3.out).mono ?_
       rintro e w50 ⟨rfl, hb⟩
       refine ⟨_, rfl, ?_⟩
       have n0_ := Aside0.mk (blk_below (g := gb138) (o := .cells vA0 25 (0, 0)) (by (with_reducible repeat (first | refine blk_drewN ?_ _ | refine blk_drew ?_ | refine blk_alloc ?_ _)); exact BK138.out) hb)
       have n1_ := Aside0.mk (blk_below (g := gb139) (o := .cells vA1 25 (0, 0)) (by (with_reducible repeat (first | refine blk_drewN ?_ _ | refine blk_drew ?_ | refine blk_alloc ?_ _)); exact BK139.out) hb)
       have n2_ := Aside0.mk (below_step (by repeat (first | (with_reducible first | exact HB.out | apply below_alloc | apply pw_below_drewN | apply below_drew1 | refine below_set ?_ GE138.out | refine below_set ?_ GE139.out) | exact HB.out)) hb)
       clear BK138
       clear BK139
       clear HB
       have BK138 := n0_
       have BK139 := n1_
       have HB := n2_
       clear n0_ n1_ n2_
       (try clear hb)
       (try clear hb2)
       (try clear hk)
       (try clear hi)
       refine hK.out _ _ ⟨(blk_cell BK138.out 0).trans rfl, (blk_cell BK138.out 1).trans rfl, (blk_cell BK138.out 2).trans rfl, (blk_cell BK138.out 3).trans rfl, (blk_cell BK138.out 4).trans rfl, (blk_cell BK138.out 5).trans rfl, (blk_cell BK138.out 6).trans rfl, (blk_cell BK138.out 7).trans rfl, (blk_cell BK138.out 8).trans rfl, (blk_cell BK138.out 9).trans rfl, (blk_cell BK139.out 0).trans rfl, (blk_cell BK139.out 1).trans rfl, (blk_cell BK139.out 2).trans rfl, (blk_cell BK139.out 3).trans rfl, (blk_cell BK139.out 4).trans rfl, (blk_cell BK139.out 5).trans rfl, (blk_cell BK139.out 6).trans rfl, (blk_cell BK139.out 7).trans rfl, (blk_cell BK139.out 8).trans rfl, (blk_cell BK139.out 9).trans rfl⟩ (fun hHeld => ?_)
       clear hK K
       refine norm_ (a' := ?_) ?_ ?_
       rotate_left
       ·
        show Act.put _ (some 11) _ = _
        simp only [Act.put, List.setIfInBounds_toArray, List.set_cons_zero, List.set_cons_succ, i64_w, i32_w]
        rfl
       refine pure_ (i := 7) (N := some 12) (v := ?_) (a' := ?_) #[Y,Y,Y,Y,Y,Y,Y,Y,Z,Z,Z,Z,Z,Z,Z,Z,Z,Z,Z,Z,Z,Z,Z,Z,Z,Z,Z,Z,Z,Z,Z,Z,Z,Z,Z,Z,Z,Z,Z,Z,Z,Z,Z,Z,Z,Z,Z] rfl rfl (any_of HT_.out (by kernel_rfl)) (fun _ _ _ h => h) (Or.inl ⟨by rfl, ?_⟩) ?_ ?_
       rotate_left
       ·
        intro w'
        go_simp
        with_reducible rfl
       rotate_left
       ·
        simp only [Act.put, List.setIfInBounds_toArray, List.set_cons_zero, List.set_cons_succ, i64_w, i32_w]
        rfl
       refine pure_ (i := 8) (N := some 13) (v := ?_) (a' := ?_) #[Y,Y,Y,Y,Y,Y,Y,Y,Y,Z,Z,Z,Z,Z,Z,Z,Z,Z,Z,Z,Z,Z,Z,Z,Z,Z,Z,Z,Z,Z,Z,Z,Z,Z,Z,Z,Z,Z,Z,Z,Z,Z,Z,Z,Z,Z,Z] rfl rfl (any_of HT_.out (by kernel_rfl)) (fun _ _ _ h => h) (Or.inl ⟨by rfl, ?_⟩) ?_ ?_
       rotate_left
       ·
        intro w'
        go_simp
        with_reducible rfl
       rotate_left
       ·
        simp only [Act.put, List.setIfInBounds_toArray, List.set_cons_zero, List.set_cons_succ, i64_w, i32_w]
        rfl
       refine pure_ (i := 9) (N := some 14) (v := ?_) (a' := ?_) #[Y,Y,Y,Y,Y,Y,Y,Y,Y,Y,Z,Z,Z,Z,Z,Z,Z,Z,Z,Z,Z,Z,Z,Z,Z,Z,Z,Z,Z,Z,Z,Z,Z,Z,Z,Z,Z,Z,Z,Z,Z,Z,Z,Z,Z,Z,Z] rfl rfl (any_of HT_.out (by kernel_rfl)) (fun _ _ _ h => h) (Or.inl ⟨by rfl, ?_⟩) ?_ ?_
       rotate_left
       ·
        intro w'
        go_simp
        with_reducible rfl
       rotate_left
       ·
        simp only [Act.put, List.setIfInBounds_toArray, List.set_cons_zero, List.set_cons_succ, i64_w, i32_w]
        rfl
       refine take_ (i := 10) (N := some 15) (v := ?_) (a' := ?_) #[Y,Y,Y,Y,Y,Y,Y,Y,Y,Y,Y,Z,Z,Z,Z,Z,Z,Z,Z,Z,Z,Z,Z,Z,Z,Z,Z,Z,Z,Z,Z,Z,Z,Z,Z,Z,Z,Z,Z,Z,Z,Z,Z,Z,Z,Z,Z] rfl rfl (take_ofW HT_.out HW_.out (by kernel_rfl)) (fun _ _ _ h => h) (Or.inl ⟨by rfl, ?_⟩) hHeld ?_ ?_
       rotate_left
       ·
        rintro w' ⟨s0, s1, s2, s3, s4, s5, s6, s7, s8, s9, s10, s11, s12, s13, s14, s15, s16, s17, s18, s19⟩
        go_simp
        with_reducible rfl
       rotate_left
       ·
        simp only [Act.put, List.setIfInBounds_toArray, List.set_cons_zero, List.set_cons_succ, i64_w, i32_w]
        rfl
       refine take_ (i := 11) (N := some 16) (v := ?_) (a' := ?_) #[Y,Y,Y,Y,Y,Y,Y,Y,Y,Y,Y,Y,Z,Z,Z,Z,Z,Z,Z,Z,Z,Z,Z,Z,Z,Z,Z,Z,Z,Z,Z,Z,Z,Z,Z,Z,Z,Z,Z,Z,Z,Z,Z,Z,Z,Z,Z] rfl rfl (take_ofW HT_.out HW_.out (by kernel_rfl)) (fun _ _ _ h => h) (Or.inl ⟨by rfl, ?_⟩) hHeld ?_ ?_
       rotate_left
       ·
        rintro w' ⟨s0, s1, s2, s3, s4, s5, s6, s7, s8, s9, s10, s11, s12, s13, s14, s15, s16, s17, s18, s19⟩
        go_simp
        with_reducible rfl
       rotate_left
       ·
        simp only [Act.put, List.setIfInBounds_toArray, List.set_cons_zero, List.set_cons_succ, i64_w, i32_w]
        rfl
       refine one_ (i := 12) (N := some 17) #[Y,Y,Y,Y,Y,Y,Y,Y,Y,Y,Y,Y,Y,Z,Z,Z,Z,Z,Z,Z,Z,Z,Z,Z,Z,Z,Z,Z,Z,Z,Z,Z,Z,Z,Z,Z,Z,Z,Z,Z,Z,Z,Z,Z,Z,Z,Z] rfl rfl (one_of HT_.out (by kernel_rfl)) (by decide) (fun K hK => ?_)
       refine goes_ Try.func10 (by kernel_rfl) rfl #[.agg vA0, .agg vA1, .int .i64 0] (by rfl) rfl rfl (by (try simp only [List.map_toArray, List.map_cons, List.map_nil]); first | done | rfl | (simp only [List.length_drop, List.length_take]; rfl)) ?_
       with_reducible refine (log_Fits.calls 4 0 0 0 0 7 0 0 0 1 3 0 0 0 0 7 0 0 0 2 0 true _ A14.out).mono ?_
       rintro e w51 ⟨rfl, hb⟩
       refine ⟨_, rfl, ?_⟩
       have n0_ := Aside0.mk (blk_below (g := gb138) (o := .cells vA0 25 (0, 0)) (by (with_reducible repeat (first | refine blk_drewN ?_ _ | refine blk_drew ?_ | refine blk_alloc ?_ _)); exact BK138.out) hb)
       have n1_ := Aside0.mk (blk_below (g := gb139) (o := .cells vA1 25 (0, 0)) (by (with_reducible repeat (first | refine blk_drewN ?_ _ | refine blk_drew ?_ | refine blk_alloc ?_ _)); exact BK139.out) hb)
       have n2_ := Aside0.mk (below_step (by repeat (first | (with_reducible first | exact HB.out | apply below_alloc | apply pw_below_drewN | apply below_drew1 | refine below_set ?_ GE138.out | refine below_set ?_ GE139.out) | exact HB.out)) hb)
       clear BK138
       clear BK139
       clear HB
       have BK138 := n0_
       have BK139 := n1_
       have HB := n2_
       clear n0_ n1_ n2_
       (try clear hb)
       (try clear hb2)
       (try clear hk)
       (try clear hi)
       refine hK.out _ _ ⟨(blk_cell BK138.out 0).trans rfl, (blk_cell BK138.out 1).trans rfl, (blk_cell BK138.out 2).trans rfl, (blk_cell BK138.out 3).trans rfl, (blk_cell BK138.out 4).trans rfl, (blk_cell BK138.out 5).trans rfl, (blk_cell BK138.out 6).trans rfl, (blk_cell BK138.out 7).trans rfl, (blk_cell BK138.out 8).trans rfl, (blk_cell BK138.out 9).trans rfl, (blk_cell BK139.out 0).trans rfl, (blk_cell BK139.out 1).trans rfl, (blk_cell BK139.out 2).trans rfl, (blk_cell BK139.out 3).trans rfl, (blk_cell BK139.out 4).trans rfl, (blk_cell BK139.out 5).trans rfl, (blk_cell BK139.out 6).trans rfl, (blk_cell BK139.out 7).trans rfl, (blk_cell BK139.out 8).trans rfl, (blk_cell BK139.out 9).trans rfl⟩ (fun hHeld => ?_)
       clear hK K
       refine norm_ (a' := ?_) ?_ ?_
       rotate_left
       ·
        show Act.put _ (some 17) _ = _
        simp only [Act.put, List.setIfInBounds_toArray, List.set_cons_zero, List.set_cons_succ, i64_w, i32_w]
        rfl
       refine pure_ (i := 13) (N := some 18) (v := ?_) (a' := ?_) #[Y,Y,Y,Y,Y,Y,Y,Y,Y,Y,Y,Y,Y,Y,Z,Z,Z,Z,Z,Z,Z,Z,Z,Z,Z,Z,Z,Z,Z,Z,Z,Z,Z,Z,Z,Z,Z,Z,Z,Z,Z,Z,Z,Z,Z,Z,Z] rfl rfl (any_of HT_.out (by kernel_rfl)) (fun _ _ _ h => h) (Or.inl ⟨by rfl, ?_⟩) ?_ ?_
       rotate_left
       ·
        intro w'
        go_simp
        with_reducible rfl
       rotate_left
       ·
        simp only [Act.put, List.setIfInBounds_toArray, List.set_cons_zero, List.set_cons_succ, i64_w, i32_w]
        rfl
       refine pure_ (i := 14) (N := some 19) (v := ?_) (a' := ?_) #[Y,Y,Y,Y,Y,Y,Y,Y,Y,Y,Y,Y,Y,Y,Y,Z,Z,Z,Z,Z,Z,Z,Z,Z,Z,Z,Z,Z,Z,Z,Z,Z,Z,Z,Z,Z,Z,Z,Z,Z,Z,Z,Z,Z,Z,Z,Z] rfl rfl (any_of HT_.out (by kernel_rfl)) (fun _ _ _ h => h) (Or.inl ⟨by rfl, ?_⟩) ?_ ?_
       rotate_left
       ·
        intro w'
        go_simp
        with_reducible rfl
       rotate_left
       ·
        simp only [Act.put, List.setIfInBounds_toArray, List.set_cons_zero, List.set_cons_succ, i64_w, i32_w]
        rfl
       refine take_ (i := 15) (N := some 20) (v := ?_) (a' := ?_) #[Y,Y,Y,Y,Y,Y,Y,Y,Y,Y,Y,Y,Y,Y,Y,Y,Z,Z,Z,Z,Z,Z,Z,Z,Z,Z,Z,Z,Z,Z,Z,Z,Z,Z,Z,Z,Z,Z,Z,Z,Z,Z,Z,Z,Z,Z,Z] rfl rfl (take_ofW HT_.out HW_.out (by kernel_rfl)) (fun _ _ _ h => h) (Or.inl ⟨by rfl, ?_⟩) hHeld ?_ ?_
       rotate_left
       ·
        rintro w' ⟨s0, s1, s2, s3, s4, s5, s6, s7, s8, s9, s10, s11, s12, s13, s14, s15, s16, s17, s18, s19⟩
        go_simp
        with_reducible rfl
       rotate_left
       ·
        simp only [Act.put, List.setIfInBounds_toArray, List.set_cons_zero, List.set_cons_succ, i64_w, i32_w]
        rfl
       refine take_ (i := 16) (N := some 21) (v := ?_) (a' := ?_) #[Y,Y,Y,Y,Y,Y,Y,Y,Y,Y,Y,Y,Y,Y,Y,Y,Y,Z,Z,Z,Z,Z,Z,Z,Z,Z,Z,Z,Z,Z,Z,Z,Z,Z,Z,Z,Z,Z,Z,Z,Z,Z,Z,Z,Z,Z,Z] rfl rfl (take_ofW HT_.out HW_.out (by kernel_rfl)) (fun _ _ _ h => h) (Or.inl ⟨by rfl, ?_⟩) hHeld ?_ ?_
       rotate_left
       ·
        rintro w' ⟨s0, s1, s2, s3, s4, s5, s6, s7, s8, s9, s10, s11, s12, s13, s14, s15, s16, s17, s18, s19⟩
        go_simp
        with_reducible rfl
       rotate_left
       ·
        simp only [Act.put, List.setIfInBounds_toArray, List.set_cons_zero, List.set_cons_succ, i64_w, i32_w]
        rfl
       refine take_ (i := 18) (N := some 23) (v := ?_) (a' := ?_) #[Y,Y,Y,Y,Y,Y,Y,Y,Y,Y,Y,Y,Y,Y,Y,Y,Y,Z,Y,Z,Z,Z,Z,Z,Z,Z,Z,Z,Z,Z,Z,Z,Z,Z,Z,Z,Z,Z,Z,Z,Z,Z,Z,Z,Z,Z,Z] rfl rfl (take_ofW HT_.out HW_.out (by kernel_rfl)) (fun _ _ _ h => h) (Or.inl ⟨by rfl, ?_⟩) hHeld ?_ ?_
       rotate_left
       ·
        rintro w' ⟨s0, s1, s2, s3, s4, s5, s6, s7, s8, s9, s10, s11, s12, s13, s14, s15, s16, s17, s18, s19⟩
        go_simp
        with_reducible rfl
       rotate_left
       ·
        simp only [Act.put, List.setIfInBounds_toArray, List.set_cons_zero, List.set_cons_succ, i64_w, i32_w]
        rfl
       refine join_ (σ := Value × Value × Value × Value × Value × Value × Value) 3 #[Y,Y,Y,Y,Y,Y,Y,Y,Y,Y,Y,Y,Y,Y,Y,Y,Y,Y,Y,Y,Y,Y,Y,Y,Y,Y,Y,Y,Y,Y,Y,Y,Y,Y,Y,Y,Y,Y,Y,Y,Y,Y,Y,Y,Z,Z,Z] (fun s_ => [(22, s_.1), (24, s_.2.1), (25, .bool false), (30, s_.2.2.1), (33, s_.2.2.2.1), (34, .bool true), (37, .bool true), (43, s_.2.2.2.2.1), (45, s_.2.2.2.2.2.1), (48, s_.2.2.2.2.2.2), (26, .bool (!false)), (27, .bool (!false)), (28, .bool (!false)), (29, .agg vA0), (31, .agg vA1), (32, .agg vA1), (35, .bool true), (36, .bool true), (38, .bool true), (39, .bool true), (40, .agg vA0), (41, .agg vA1), (42, .agg vA0), (44, .agg vA0), (46, .agg vA0), (47, .agg vA0)]) (fun s_ w' => (w'.cell? ⟨gb138, 0, none⟩ = some (.int .i64 4) ∧ w'.cell? ⟨gb138, 1, none⟩ = some (.int .i64 0) ∧ w'.cell? ⟨gb138, 2, none⟩ = some (.int .i64 0) ∧ w'.cell? ⟨gb138, 3, none⟩ = some (.int .u32 0) ∧ w'.cell? ⟨gb138, 4, none⟩ = some (.int .u32 0) ∧ w'.cell? ⟨gb138, 5, none⟩ = some (.int .u32 7) ∧ w'.cell? ⟨gb138, 6, none⟩ = some (.int .u32 0) ∧ w'.cell? ⟨gb138, 7, none⟩ = some (.int .u32 0) ∧ w'.cell? ⟨gb138, 8, none⟩ = some (.int .u32 0) ∧ w'.cell? ⟨gb138, 9, none⟩ = some (.int .u32 1) ∧ w'.cell? ⟨gb139, 0, none⟩ = some (.int .i64 3) ∧ w'.cell? ⟨gb139, 1, none⟩ = some (.int .i64 0) ∧ w'.cell? ⟨gb139, 2, none⟩ = some (.int .i64 0) ∧ w'.cell? ⟨gb139, 3, none⟩ = some (.int .u32 0) ∧ w'.cell? ⟨gb139, 4, none⟩ = some (.int .u32 0) ∧ w'.cell? ⟨gb139, 5, none⟩ = some (.int .u32 7) ∧ w'.cell? ⟨gb139, 6, none⟩ = some (.int .u32 0) ∧ w'.cell? ⟨gb139, 7, none⟩ = some (.int .u32 0) ∧ w'.cell? ⟨gb139, 8, none⟩ = some (.int .u32 0) ∧ w'.cell? ⟨gb139, 9, none⟩ = some (.int .u32 2)) ∧ (Kd.R k25 25 w' w.heap.size (fun k_ => some k_ ≠ (s_.2.1 : Value).ownBlock ∧ some k_ ≠ (s_.2.2.1 : Value).ownBlock ∧ some k_ ≠ (s_.2.2.2.1 : Value).ownBlock ∧ some k_ ≠ (s_.2.2.2.2.1 : Value).ownBlock ∧ some k_ ≠ (s_.2.2.2.2.2.1 : Value).ownBlock ∧ some k_ ≠ (s_.2.2.2.2.2.2 : Value).ownBlock ∧ k_ ≠ gb138 ∧ k_ ≠ gb139) s_.1 y143) ∧ (Kd.R k25 25 w' w.heap.size (fun k_ => some k_ ≠ (s_.1 : Value).ownBlock ∧ some k_ ≠ (s_.2.2.1 : Value).ownBlock ∧ some k_ ≠ (s_.2.2.2.1 : Value).ownBlock ∧ some k_ ≠ (s_.2.2.2.2.1 : Value).ownBlock ∧ some k_ ≠ (s_.2.2.2.2.2.1 : Value).ownBlock ∧ some k_ ≠ (s_.2.2.2.2.2.2 : Value).ownBlock ∧ k_ ≠ gb138 ∧ k_ ≠ gb139) s_.2.1 y146) ∧ (Kd.R k25 25 w' w.heap.size (fun k_ => some k_ ≠ (s_.1 : Value).ownBlock ∧ some k_ ≠ (s_.2.1 : Value).ownBlock ∧ some k_ ≠ (s_.2.2.2.1 : Value).ownBlock ∧ some k_ ≠ (s_.2.2.2.2.1 : Value).ownBlock ∧ some k_ ≠ (s_.2.2.2.2.2.1 : Value).ownBlock ∧ some k_ ≠ (s_.2.2.2.2.2.2 : Value).ownBlock ∧ k_ ≠ gb138 ∧ k_ ≠ gb139) s_.2.2.1 y150) ∧ (Kd.R k25 25 w' w.heap.size (fun k_ => some k_ ≠ (s_.1 : Value).ownBlock ∧ some k_ ≠ (s_.2.1 : Value).ownBlock ∧ some k_ ≠ (s_.2.2.1 : Value).ownBlock ∧ some k_ ≠ (s_.2.2.2.2.1 : Value).ownBlock ∧ some k_ ≠ (s_.2.2.2.2.2.1 : Value).ownBlock ∧ some k_ ≠ (s_.2.2.2.2.2.2 : Value).ownBlock ∧ k_ ≠ gb138 ∧ k_ ≠ gb139) s_.2.2.2.1 y153) ∧ (Kd.R k25 25 w' w.heap.size (fun k_ => some k_ ≠ (s_.1 : Value).ownBlock ∧ some k_ ≠ (s_.2.1 : Value).ownBlock ∧ some k_ ≠ (s_.2.2.1 : Value).ownBlock ∧ some k_ ≠ (s_.2.2.2.1 : Value).ownBlock ∧ some k_ ≠ (s_.2.2.2.2.2.1 : Value).ownBlock ∧ some k_ ≠ (s_.2.2.2.2.2.2 : Value).ownBlock ∧ k_ ≠ gb138 ∧ k_ ≠ gb139) s_.2.2.2.2.1 y158) ∧ (Kd.R k25 25 w' w.heap.size (fun k_ => some k_ ≠ (s_.1 : Value).ownBlock ∧ some k_ ≠ (s_.2.1 : Value).ownBlock ∧ some k_ ≠ (s_.2.2.1 : Value).ownBlock ∧ some k_ ≠ (s_.2.2.2.1 : Value).ownBlock ∧ some k_ ≠ (s_.2.2.2.2.1 : Value).ownBlock ∧ some k_ ≠ (s_.2.2.2.2.2.2 : Value).ownBlock ∧ k_ ≠ gb138 ∧ k_ ≠ gb139) s_.2.2.2.2.2.1 t161) ∧ (Kd.R k25 25 w' w.heap.size (fun k_ => some k_ ≠ (s_.1 : Value).ownBlock ∧ some k_ ≠ (s_.2.1 : Value).ownBlock ∧ some k_ ≠ (s_.2.2.1 : Value).ownBlock ∧ some k_ ≠ (s_.2.2.2.1 : Value).ownBlock ∧ some k_ ≠ (s_.2.2.2.2.1 : Value).ownBlock ∧ some k_ ≠ (s_.2.2.2.2.2.1 : Value).ownBlock ∧ k_ ≠ gb138 ∧ k_ ≠ gb139) s_.2.2.2.2.2.2 y164) ∧ (w'.heap[gb138]? = some (.cells vA0 25 (0, 0))) ∧ (w'.heap[gb139]? = some (.cells vA1 25 (0, 0))) ∧ (Below w.heap.size w w')) ?_ ?_
       rotate_left
       ·
        intro hJ17_19_20_25_28_29_32_38_40_43
        refine join_ (σ := Value × Value × Value × Value × Value × Value) 4 #[Y,Y,Y,Y,Y,Y,Y,Y,Y,Y,Y,Y,Y,Y,Y,Y,Y,Y,Y,Y,Y,Y,Y,Y,Y,Y,Y,Y,Y,Y,Y,Y,Y,Y,Y,Y,Y,Y,Y,Y,Y,Y,Y,Z,Z,Z,Z] (fun s_ => [(22, s_.1), (24, s_.2.1), (25, .bool false), (30, s_.2.2.1), (33, s_.2.2.2.1), (34, .bool true), (37, .bool true), (43, s_.2.2.2.2.1), (45, s_.2.2.2.2.2), (26, .bool (!false)), (27, .bool (!false)), (28, .bool (!false)), (29, .agg vA0), (31, .agg vA1), (32, .agg vA1), (35, .bool true), (36, .bool true), (38, .bool true), (39, .bool true), (40, .agg vA0), (41, .agg vA1), (42, .agg vA0), (44, .agg vA0), (46, .agg vA0), (47, .agg vA0)]) (fun s_ w' => (w'.cell? ⟨gb138, 0, none⟩ = some (.int .i64 4) ∧ w'.cell? ⟨gb138, 1, none⟩ = some (.int .i64 0) ∧ w'.cell? ⟨gb138, 2, none⟩ = some (.int .i64 0) ∧ w'.cell? ⟨gb138, 3, none⟩ = some (.int .u32 0) ∧ w'.cell? ⟨gb138, 4, none⟩ = some (.int .u32 0) ∧ w'.cell? ⟨gb138, 5, none⟩ = some (.int .u32 7) ∧ w'.cell? ⟨gb138, 6, none⟩ = some (.int .u32 0) ∧ w'.cell? ⟨gb138, 7, none⟩ = some (.int .u32 0) ∧ w'.cell? ⟨gb138, 8, none⟩ = some (.int .u32 0) ∧ w'.cell? ⟨gb138, 9, none⟩ = some (.int .u32 1) ∧ w'.cell? ⟨gb139, 0, none⟩ = some (.int .i64 3) ∧ w'.cell? ⟨gb139, 1, none⟩ = some (.int .i64 0) ∧ w'.cell? ⟨gb139, 2, none⟩ = some (.int .i64 0) ∧ w'.cell? ⟨gb139, 3, none⟩ = some (.int .u32 0) ∧ w'.cell? ⟨gb139, 4, none⟩ = some (.int .u32 0) ∧ w'.cell? ⟨gb139, 5, none⟩ = some (.int .u32 7) ∧ w'.cell? ⟨gb139, 6, none⟩ = some (.int .u32 0) ∧ w'.cell? ⟨gb139, 7, none⟩ = some (.int .u32 0) ∧ w'.cell? ⟨gb139, 8, none⟩ = some (.int .u32 0) ∧ w'.cell? ⟨gb139, 9, none⟩ = some (.int .u32 2)) ∧ (Kd.R k25 25 w' w.heap.size (fun k_ => some k_ ≠ (s_.2.1 : Value).ownBlock ∧ some k_ ≠ (s_.2.2.1 : Value).ownBlock ∧ some k_ ≠ (s_.2.2.2.1 : Value).ownBlock ∧ some k_ ≠ (s_.2.2.2.2.1 : Value).ownBlock ∧ some k_ ≠ (s_.2.2.2.2.2 : Value).ownBlock ∧ k_ ≠ gb138 ∧ k_ ≠ gb139) s_.1 y143) ∧ (Kd.R k25 25 w' w.heap.size (fun k_ => some k_ ≠ (s_.1 : Value).ownBlock ∧ some k_ ≠ (s_.2.2.1 : Value).ownBlock ∧ some k_ ≠ (s_.2.2.2.1 : Value).ownBlock ∧ some k_ ≠ (s_.2.2.2.2.1 : Value).ownBlock ∧ some k_ ≠ (s_.2.2.2.2.2 : Value).ownBlock ∧ k_ ≠ gb138 ∧ k_ ≠ gb139) s_.2.1 y146) ∧ (Kd.R k25 25 w' w.heap.size (fun k_ => some k_ ≠ (s_.1 : Value).ownBlock ∧ some k_ ≠ (s_.2.1 : Value).ownBlock ∧ some k_ ≠ (s_.2.2.2.1 : Value).ownBlock ∧ some k_ ≠ (s_.2.2.2.2.1 : Value).ownBlock ∧ some k_ ≠ (s_.2.2.2.2.2 : Value).ownBlock ∧ k_ ≠ gb138 ∧ k_ ≠ gb139) s_.2.2.1 y150) ∧ (Kd.R k25 25 w' w.heap.size (fun k_ => some k_ ≠ (s_.1 : Value).ownBlock ∧ some k_ ≠ (s_.2.1 : Value).ownBlock ∧ some k_ ≠ (s_.2.2.1 : Value).ownBlock ∧ some k_ ≠ (s_.2.2.2.2.1 : Value).ownBlock ∧ some k_ ≠ (s_.2.2.2.2.2 : Value).ownBlock ∧ k_ ≠ gb138 ∧ k_ ≠ gb139) s_.2.2.2.1 y153) ∧ (Kd.R k25 25 w' w.heap.size (fun k_ => some k_ ≠ (s_.1 : Value).ownBlock ∧ some k_ ≠ (s_.2.1 : Value).ownBlock ∧ some k_ ≠ (s_.2.2.1 : Value).ownBlock ∧ some k_ ≠ (s_.2.2.2.1 : Value).ownBlock ∧ some k_ ≠ (s_.2.2.2.2.2 : Value).ownBlock ∧ k_ ≠ gb138 ∧ k_ ≠ gb139) s_.2.2.2.2.1 y158) ∧ (Kd.R k25 25 w' w.heap.size (fun k_ => some k_ ≠ (s_.1 : Value).ownBlock ∧ some k_ ≠ (s_.2.1 : Value).ownBlock ∧ some k_ ≠ (s_.2.2.1 : Value).ownBlock ∧ some k_ ≠ (s_.2.2.2.1 : Value).ownBlock ∧ some k_ ≠ (s_.2.2.2.2.1 : Value).ownBlock ∧ k_ ≠ gb138 ∧ k_ ≠ gb139) s_.2.2.2.2.2 t161) ∧ (w'.heap[gb138]? = some (.cells vA0 25 (0, 0))) ∧ (w'.heap[gb139]? = some (.cells vA1 25 (0, 0))) ∧ (Below w.heap.size w w')) ?_ ?_
        rotate_left
        ·
         intro hJ17_19_20_25_28_29_32_38_40
         refine join_ (σ := Value × Value × Value × Value × Value × Value) 4 #[Y,Y,Y,Y,Y,Y,Y,Y,Y,Y,Y,Y,Y,Y,Y,Y,Y,Y,Y,Y,Y,Y,Y,Y,Y,Y,Y,Y,Y,Y,Y,Y,Y,Y,Y,Y,Y,Y,Y,Y,Z,Y,Y,Y,Z,Z,Z] (fun s_ => [(22, s_.1), (24, s_.2.1), (25, .bool false), (30, s_.2.2.1), (33, s_.2.2.2.1), (34, .bool true), (37, .bool true), (43, s_.2.2.2.2.1), (48, s_.2.2.2.2.2), (26, .bool (!false)), (27, .bool (!false)), (28, .bool (!false)), (29, .agg vA0), (31, .agg vA1), (32, .agg vA1), (35, .bool true), (36, .bool true), (38, .bool true), (39, .bool true), (40, .agg vA0), (41, .agg vA1), (42, .agg vA0), (44, .agg vA0), (46, .agg vA0), (47, .agg vA0)]) (fun s_ w' => (w'.cell? ⟨gb138, 0, none⟩ = some (.int .i64 4) ∧ w'.cell? ⟨gb138, 1, none⟩ = some (.int .i64 0) ∧ w'.cell? ⟨gb138, 2, none⟩ = some (.int .i64 0) ∧ w'.cell? ⟨gb138, 3, none⟩ = some (.int .u32 0) ∧ w'.cell? ⟨gb138, 4, none⟩ = some (.int .u32 0) ∧ w'.cell? ⟨gb138, 5, none⟩ = some (.int .u32 7) ∧ w'.cell? ⟨gb138, 6, none⟩ = some (.int .u32 0) ∧ w'.cell? ⟨gb138, 7, none⟩ = some (.int .u32 0) ∧ w'.cell? ⟨gb138, 8, none⟩ = some (.int .u32 0) ∧ w'.cell? ⟨gb138, 9, none⟩ = some (.int .u32 1) ∧ w'.cell? ⟨gb139, 0, none⟩ = some (.int .i64 3) ∧ w'.cell? ⟨gb139, 1, none⟩ = some (.int .i64 0) ∧ w'.cell? ⟨gb139, 2, none⟩ = some (.int .i64 0) ∧ w'.cell? ⟨gb139, 3, none⟩ = some (.int .u32 0) ∧ w'.cell? ⟨gb139, 4, none⟩ = some (.int .u32 0) ∧ w'.cell? ⟨gb139, 5, none⟩ = some (.int .u32 7) ∧ w'.cell? ⟨gb139, 6, none⟩ = some (.int .u32 0) ∧ w'.cell? ⟨gb139, 7, none⟩ = some (.int .u32 0) ∧ w'.cell? ⟨gb139, 8, none⟩ = some (.int .u32 0) ∧ w'.cell? ⟨gb139, 9, none⟩ = some (.int .u32 2)) ∧ (Kd.R k25 25 w' w.heap.size (fun k_ => some k_ ≠ (s_.2.1 : Value).ownBlock ∧ some k_ ≠ (s_.2.2.1 : Value).ownBlock ∧ some k_ ≠ (s_.2.2.2.1 : Value).ownBlock ∧ some k_ ≠ (s_.2.2.2.2.1 : Value).ownBlock ∧ some k_ ≠ (s_.2.2.2.2.2 : Value).ownBlock ∧ k_ ≠ gb138 ∧ k_ ≠ gb139) s_.1 y143) ∧ (Kd.R k25 25 w' w.heap.size (fun k_ => some k_ ≠ (s_.1 : Value).ownBlock ∧ some k_ ≠ (s_.2.2.1 : Value).ownBlock ∧ some k_ ≠ (s_.2.2.2.1 : Value).ownBlock ∧ some k_ ≠ (s_.2.2.2.2.1 : Value).ownBlock ∧ some k_ ≠ (s_.2.2.2.2.2 : Value).ownBlock ∧ k_ ≠ gb138 ∧ k_ ≠ gb139) s_.2.1 y146) ∧ (Kd.R k25 25 w' w.heap.size (fun k_ => some k_ ≠ (s_.1 : Value).ownBlock ∧ some k_ ≠ (s_.2.1 : Value).ownBlock ∧ some k_ ≠ (s_.2.2.2.1 : Value).ownBlock ∧ some k_ ≠ (s_.2.2.2.2.1 : Value).ownBlock ∧ some k_ ≠ (s_.2.2.2.2.2 : Value).ownBlock ∧ k_ ≠ gb138 ∧ k_ ≠ gb139) s_.2.2.1 y150) ∧ (Kd.R k25 25 w' w.heap.size (fun k_ => some k_ ≠ (s_.1 : Value).ownBlock ∧ some k_ ≠ (s_.2.1 : Value).ownBlock ∧ some k_ ≠ (s_.2.2.1 : Value).ownBlock ∧ some k_ ≠ (s_.2.2.2.2.1 : Value).ownBlock ∧ some k_ ≠ (s_.2.2.2.2.2 : Value).ownBlock ∧ k_ ≠ gb138 ∧ k_ ≠ gb139) s_.2.2.2.1 y153) ∧ (Kd.R k25 25 w' w.heap.size (fun k_ => some k_ ≠ (s_.1 : Value).ownBlock ∧ some k_ ≠ (s_.2.1 : Value).ownBlock ∧ some k_ ≠ (s_.2.2.1 : Value).ownBlock ∧ some k_ ≠ (s_.2.2.2.1 : Value).ownBlock ∧ some k_ ≠ (s_.2.2.2.2.2 : Value).ownBlock ∧ k_ ≠ gb138 ∧ k_ ≠ gb139) s_.2.2.2.2.1 y158) ∧ (Kd.R k25 25 w' w.heap.size (fun k_ => some k_ ≠ (s_.1 : Value).ownBlock ∧ some k_ ≠ (s_.2.1 : Value).ownBlock ∧ some k_ ≠ (s_.2.2.1 : Value).ownBlock ∧ some k_ ≠ (s_.2.2.2.1 : Value).ownBlock ∧ some k_ ≠ (s_.2.2.2.2.1 : Value).ownBlock ∧ k_ ≠ gb138 ∧ k_ ≠ gb139) s_.2.2.2.2.2 y164) ∧ (w'.heap[gb138]? = some (.cells vA0 25 (0, 0))) ∧ (w'.heap[gb139]? = some (.cells vA1 25 (0, 0))) ∧ (Below w.heap.size w w')) ?_ ?_
         rotate_left
         ·
          intro hJ17_19_20_25_28_29_32_38_43
          refine join_ (σ := Value × Value × Value × Value × Value) 5 #[Y,Y,Y,Y,Y,Y,Y,Y,Y,Y,Y,Y,Y,Y,Y,Y,Y,Y,Y,Y,Y,Y,Y,Y,Y,Y,Y,Y,Y,Y,Y,Y,Y,Y,Y,Y,Y,Y,Y,Y,Z,Y,Y,Z,Z,Z,Z] (fun s_ => [(22, s_.1), (24, s_.2.1), (25, .bool false), (30, s_.2.2.1), (33, s_.2.2.2.1), (34, .bool true), (37, .bool true), (43, s_.2.2.2.2), (26, .bool (!false)), (27, .bool (!false)), (28, .bool (!false)), (29, .agg vA0), (31, .agg vA1), (32, .agg vA1), (35, .bool true), (36, .bool true), (38, .bool true), (39, .bool true), (40, .agg vA0), (41, .agg vA1), (42, .agg vA0), (44, .agg vA0), (46, .agg vA0), (47, .agg vA0)]) (fun s_ w' => (w'.cell? ⟨gb138, 0, none⟩ = some (.int .i64 4) ∧ w'.cell? ⟨gb138, 1, none⟩ = some (.int .i64 0) ∧ w'.cell? ⟨gb138, 2, none⟩ = some (.int .i64 0) ∧ w'.cell? ⟨gb138, 3, none⟩ = some (.int .u32 0) ∧ w'.cell? ⟨gb138, 4, none⟩ = some (.int .u32 0) ∧ w'.cell? ⟨gb138, 5, none⟩ = some (.int .u32 7) ∧ w'.cell? ⟨gb138, 6, none⟩ = some (.int .u32 0) ∧ w'.cell? ⟨gb138, 7, none⟩ = some (.int .u32 0) ∧ w'.cell? ⟨gb138, 8, none⟩ = some (.int .u32 0) ∧ w'.cell? ⟨gb138, 9, none⟩ = some (.int .u32 1) ∧ w'.cell? ⟨gb139, 0, none⟩ = some (.int .i64 3) ∧ w'.cell? ⟨gb139, 1, none⟩ = some (.int .i64 0) ∧ w'.cell? ⟨gb139, 2, none⟩ = some (.int .i64 0) ∧ w'.cell? ⟨gb139, 3, none⟩ = some (.int .u32 0) ∧ w'.cell? ⟨gb139, 4, none⟩ = some (.int .u32 0) ∧ w'.cell? ⟨gb139, 5, none⟩ = some (.int .u32 7) ∧ w'.cell? ⟨gb139, 6, none⟩ = some (.int .u32 0) ∧ w'.cell? ⟨gb139, 7, none⟩ = some (.int .u32 0) ∧ w'.cell? ⟨gb139, 8, none⟩ = some (.int .u32 0) ∧ w'.cell? ⟨gb139, 9, none⟩ = some (.int .u32 2)) ∧ (Kd.R k25 25 w' w.heap.size (fun k_ => some k_ ≠ (s_.2.1 : Value).ownBlock ∧ some k_ ≠ (s_.2.2.1 : Value).ownBlock ∧ some k_ ≠ (s_.2.2.2.1 : Value).ownBlock ∧ some k_ ≠ (s_.2.2.2.2 : Value).ownBlock ∧ k_ ≠ gb138 ∧ k_ ≠ gb139) s_.1 y143) ∧ (Kd.R k25 25 w' w.heap.size (fun k_ => some k_ ≠ (s_.1 : Value).ownBlock ∧ some k_ ≠ (s_.2.2.1 : Value).ownBlock ∧ some k_ ≠ (s_.2.2.2.1 : Value).ownBlock ∧ some k_ ≠ (s_.2.2.2.2 : Value).ownBlock ∧ k_ ≠ gb138 ∧ k_ ≠ gb139) s_.2.1 y146) ∧ (Kd.R k25 25 w' w.heap.size (fun k_ => some k_ ≠ (s_.1 : Value).ownBlock ∧ some k_ ≠ (s_.2.1 : Value).ownBlock ∧ some k_ ≠ (s_.2.2.2.1 : Value).ownBlock ∧ some k_ ≠ (s_.2.2.2.2 : Value).ownBlock ∧ k_ ≠ gb138 ∧ k_ ≠ gb139) s_.2.2.1 y150) ∧ (Kd.R k25 25 w' w.heap.size (fun k_ => some k_ ≠ (s_.1 : Value).ownBlock ∧ some k_ ≠ (s_.2.1 : Value).ownBlock ∧ some k_ ≠ (s_.2.2.1 : Value).ownBlock ∧ some k_ ≠ (s_.2.2.2.2 : Value).ownBlock ∧ k_ ≠ gb138 ∧ k_ ≠ gb139) s_.2.2.2.1 y153) ∧ (Kd.R k25 25 w' w.heap.size (fun k_ => some k_ ≠ (s_.1 : Value).ownBlock ∧ some k_ ≠ (s_.2.1 : Value).ownBlock ∧ some k_ ≠ (s_.2.2.1 : Value).ownBlock ∧ some k_ ≠ (s_.2.2.2.1 : Value).ownBlock ∧ k_ ≠ gb138 ∧ k_ ≠ gb139) s_.2.2.2.2 y158) ∧ (w'.heap[gb138]? = some (.cells vA0 25 (0, 0))) ∧ (w'.heap[gb139]? = some (.cells vA1 25 (0, 0))) ∧ (Below w.heap.size w w')) ?_ ?_
          rotate_left
          ·
           intro hJ17_19_20_25_28_29_32_38
           refine join_ (σ := Value × Value × Value × Value × Value) 5 #[Y,Y,Y,Y,Y,Y,Y,Y,Y,Y,Y,Y,Y,Y,Y,Y,Y,Y,Y,Y,Y,Y,Y,Y,Y,Y,Y,Y,Y,Y,Y,Y,Y,Y,Y,Y,Y,Y,Z,Y,Z,Y,Y,Y,Z,Z,Z] (fun s_ => [(22, s_.1), (24, s_.2.1), (25, .bool false), (30, s_.2.2.1), (33, s_.2.2.2.1), (34, .bool true), (37, .bool true), (48, s_.2.2.2.2), (26, .bool (!false)), (27, .bool (!false)), (28, .bool (!false)), (29, .agg vA0), (31, .agg vA1), (32, .agg vA1), (35, .bool true), (36, .bool true), (38, .bool true), (39, .bool true), (40, .agg vA0), (41, .agg vA1), (42, .agg vA0), (44, .agg vA0), (46, .agg vA0), (47, .agg vA0)]) (fun s_ w' => (w'.cell? ⟨gb138, 0, none⟩ = some (.int .i64 4) ∧ w'.cell? ⟨gb138, 1, none⟩ = some (.int .i64 0) ∧ w'.cell? ⟨gb138, 2, none⟩ = some (.int .i64 0) ∧ w'.cell? ⟨gb138, 3, none⟩ = some (.int .u32 0) ∧ w'.cell? ⟨gb138, 4, none⟩ = some (.int .u32 0) ∧ w'.cell? ⟨gb138, 5, none⟩ = some (.int .u32 7) ∧ w'.cell? ⟨gb138, 6, none⟩ = some (.int .u32 0) ∧ w'.cell? ⟨gb138, 7, none⟩ = some (.int .u32 0) ∧ w'.cell? ⟨gb138, 8, none⟩ = some (.int .u32 0) ∧ w'.cell? ⟨gb138, 9, none⟩ = some (.int .u32 1) ∧ w'.cell? ⟨gb139, 0, none⟩ = some (.int .i64 3) ∧ w'.cell? ⟨gb139, 1, none⟩ = some (.int .i64 0) ∧ w'.cell? ⟨gb139, 2, none⟩ = some (.int .i64 0) ∧ w'.cell? ⟨gb139, 3, none⟩ = some (.int .u32 0) ∧ w'.cell? ⟨gb139, 4, none⟩ = some (.int .u32 0) ∧ w'.cell? ⟨gb139, 5, none⟩ = some (.int .u32 7) ∧ w'.cell? ⟨gb139, 6, none⟩ = some (.int .u32 0) ∧ w'.cell? ⟨gb139, 7, none⟩ = some (.int .u32 0) ∧ w'.cell? ⟨gb139, 8, none⟩ = some (.int .u32 0) ∧ w'.cell? ⟨gb139, 9, none⟩ = some (.int .u32 2)) ∧ (Kd.R k25 25 w' w.heap.size (fun k_ => some k_ ≠ (s_.2.1 : Value).ownBlock ∧ some k_ ≠ (s_.2.2.1 : Value).ownBlock ∧ some k_ ≠ (s_.2.2.2.1 : Value).ownBlock ∧ some k_ ≠ (s_.2.2.2.2 : Value).ownBlock ∧ k_ ≠ gb138 ∧ k_ ≠ gb139) s_.1 y143) ∧ (Kd.R k25 25 w' w.heap.size (fun k_ => some k_ ≠ (s_.1 : Value).ownBlock ∧ some k_ ≠ (s_.2.2.1 : Value).ownBlock ∧ some k_ ≠ (s_.2.2.2.1 : Value).ownBlock ∧ some k_ ≠ (s_.2.2.2.2 : Value).ownBlock ∧ k_ ≠ gb138 ∧ k_ ≠ gb139) s_.2.1 y146) ∧ (Kd.R k25 25 w' w.heap.size (fun k_ => some k_ ≠ (s_.1 : Value).ownBlock ∧ some k_ ≠ (s_.2.1 : Value).ownBlock ∧ some k_ ≠ (s_.2.2.2.1 : Value).ownBlock ∧ some k_ ≠ (s_.2.2.2.2 : Value).ownBlock ∧ k_ ≠ gb138 ∧ k_ ≠ gb139) s_.2.2.1 y150) ∧ (Kd.R k25 25 w' w.heap.size (fun k_ => some k_ ≠ (s_.1 : Value).ownBlock ∧ some k_ ≠ (s_.2.1 : Value).ownBlock ∧ some k_ ≠ (s_.2.2.1 : Value).ownBlock ∧ some k_ ≠ (s_.2.2.2.2 : Value).ownBlock ∧ k_ ≠ gb138 ∧ k_ ≠ gb139) s_.2.2.2.1 y153) ∧ (Kd.R k25 25 w' w.heap.size (fun k_ => some k_ ≠ (s_.1 : Value).ownBlock ∧ some k_ ≠ (s_.2.1 : Value).ownBlock ∧ some k_ ≠ (s_.2.2.1 : Value).ownBlock ∧ some k_ ≠ (s_.2.2.2.1 : Value).ownBlock ∧ k_ ≠ gb138 ∧ k_ ≠ gb139) s_.2.2.2.2 y164) ∧ (w'.heap[gb138]? = some (.cells vA0 25 (0, 0))) ∧ (w'.heap[gb139]? = some (.cells vA1 25 (0, 0))) ∧ (Below w.heap.size w w')) ?_ ?_
           rotate_left
           ·
            intro hJ17_19_20_25_28_29_32_43
            refine join_ (σ := Value × Value × Value × Value) 6 #[Y,Y,Y,Y,Y,Y,Y,Y,Y,Y,Y,Y,Y,Y,Y,Y,Y,Y,Y,Y,Y,Y,Y,Y,Y,Y,Y,Y,Y,Y,Y,Y,Y,Y,Y,Y,Y,Y,Z,Y,Z,Y,Y,Z,Z,Z,Z] (fun s_ => [(22, s_.1), (24, s_.2.1), (25, .bool false), (30, s_.2.2.1), (33, s_.2.2.2), (34, .bool true), (37, .bool true), (26, .bool (!false)), (27, .bool (!false)), (28, .bool (!false)), (29, .agg vA0), (31, .agg vA1), (32, .agg vA1), (35, .bool true), (36, .bool true), (38, .bool true), (39, .bool true), (40, .agg vA0), (41, .agg vA1), (42, .agg vA0), (44, .agg vA0), (46, .agg vA0), (47, .agg vA0)]) (fun s_ w' => (w'.cell? ⟨gb138, 0, none⟩ = some (.int .i64 4) ∧ w'.cell? ⟨gb138, 1, none⟩ = some (.int .i64 0) ∧ w'.cell? ⟨gb138, 2, none⟩ = some (.int .i64 0) ∧ w'.cell? ⟨gb138, 3, none⟩ = some (.int .u32 0) ∧ w'.cell? ⟨gb138, 4, none⟩ = some (.int .u32 0) ∧ w'.cell? ⟨gb138, 5, none⟩ = some (.int .u32 7) ∧ w'.cell? ⟨gb138, 6, none⟩ = some (.int .u32 0) ∧ w'.cell? ⟨gb138, 7, none⟩ = some (.int .u32 0) ∧ w'.cell? ⟨gb138, 8, none⟩ = some (.int .u32 0) ∧ w'.cell? ⟨gb138, 9, none⟩ = some (.int .u32 1) ∧ w'.cell? ⟨gb139, 0, none⟩ = some (.int .i64 3) ∧ w'.cell? ⟨gb139, 1, none⟩ = some (.int .i64 0) ∧ w'.cell? ⟨gb139, 2, none⟩ = some (.int .i64 0) ∧ w'.cell? ⟨gb139, 3, none⟩ = some (.int .u32 0) ∧ w'.cell? ⟨gb139, 4, none⟩ = some (.int .u32 0) ∧ w'.cell? ⟨gb139, 5, none⟩ = some (.int .u32 7) ∧ w'.cell? ⟨gb139, 6, none⟩ = some (.int .u32 0) ∧ w'.cell? ⟨gb139, 7, none⟩ = some (.int .u32 0) ∧ w'.cell? ⟨gb139, 8, none⟩ = some (.int .u32 0) ∧ w'.cell? ⟨gb139, 9, none⟩ = some (.int .u32 2)) ∧ (Kd.R k25 25 w' w.heap.size (fun k_ => some k_ ≠ (s_.2.1 : Value).ownBlock ∧ some k_ ≠ (s_.2.2.1 : Value).ownBlock ∧ some k_ ≠ (s_.2.2.2 : Value).ownBlock ∧ k_ ≠ gb138 ∧ k_ ≠ gb139) s_.1 y143) ∧ (Kd.R k25 25 w' w.heap.size (fun k_ => some k_ ≠ (s_.1 : Value).ownBlock ∧ some k_ ≠ (s_.2.2.1 : Value).ownBlock ∧ some k_ ≠ (s_.2.2.2 : Value).ownBlock ∧ k_ ≠ gb138 ∧ k_ ≠ gb139) s_.2.1 y146) ∧ (Kd.R k25 25 w' w.heap.size (fun k_ => some k_ ≠ (s_.1 : Value).ownBlock ∧ some k_ ≠ (s_.2.1 : Value).ownBlock ∧ some k_ ≠ (s_.2.2.2 : Value).ownBlock ∧ k_ ≠ gb138 ∧ k_ ≠ gb139) s_.2.2.1 y150) ∧ (Kd.R k25 25 w' w.heap.size (fun k_ => some k_ ≠ (s_.1 : Value).ownBlock ∧ some k_ ≠ (s_.2.1 : Value).ownBlock ∧ some k_ ≠ (s_.2.2.1 : Value).ownBlock ∧ k_ ≠ gb138 ∧ k_ ≠ gb139) s_.2.2.2 y153) ∧ (w'.heap[gb138]? = some (.cells vA0 25 (0, 0))) ∧ (w'.heap[gb139]? = some (.cells vA1 25 (0, 0))) ∧ (Below w.heap.size w w')) ?_ ?_
            rotate_left
            ·
             intro hJ17_19_20_25_28_29_32
             refine join_ (σ := Value × Value × Value × Value) 15 #[Y,Y,Y,Y,Y,Y,Y,Y,Y,Y,Y,Y,Y,Y,Y,Y,Y,Y,Y,Y,Y,Y,Y,Y,Y,Y,Y,Y,Y,Y,Y,Y,Z,Z,Z,Z,Z,Z,Z,Z,Z,Z,Z,Z,Z,Z,Z] (fun s_ => [(22, s_.1), (24, s_.2.1), (25, .bool false), (30, s_.2.2.1), (33, s_.2.2.2), (34, .bool true), (26, .bool (!false)), (27, .bool (!false)), (28, .bool (!false)), (29, .agg vA0), (31, .agg vA1), (32, .agg vA1), (35, .bool true), (36, .bool true)]) (fun s_ w' => (w'.cell? ⟨gb138, 0, none⟩ = some (.int .i64 4) ∧ w'.cell? ⟨gb138, 1, none⟩ = some (.int .i64 0) ∧ w'.cell? ⟨gb138, 2, none⟩ = some (.int .i64 0) ∧ w'.cell? ⟨gb138, 3, none⟩ = some (.int .u32 0) ∧ w'.cell? ⟨gb138, 4, none⟩ = some (.int .u32 0) ∧ w'.cell? ⟨gb138, 5, none⟩ = some (.int .u32 7) ∧ w'.cell? ⟨gb138, 6, none⟩ = some (.int .u32 0) ∧ w'.cell? ⟨gb138, 7, none⟩ = some (.int .u32 0) ∧ w'.cell? ⟨gb138, 8, none⟩ = some (.int .u32 0) ∧ w'.cell? ⟨gb138, 9, none⟩ = some (.int .u32 1) ∧ w'.cell? ⟨gb139, 0, none⟩ = some (.int .i64 3) ∧ w'.cell? ⟨gb139, 1, none⟩ = some (.int .i64 0) ∧ w'.cell? ⟨gb139, 2, none⟩ = some (.int .i64 0) ∧ w'.cell? ⟨gb139, 3, none⟩ = some (.int .u32 0) ∧ w'.cell? ⟨gb139, 4, none⟩ = some (.int .u32 0) ∧ w'.cell? ⟨gb139, 5, none⟩ = some (.int .u32 7) ∧ w'.cell? ⟨gb139, 6, none⟩ = some (.int .u32 0) ∧ w'.cell? ⟨gb139, 7, none⟩ = some (.int .u32 0) ∧ w'.cell? ⟨gb139, 8, none⟩ = some (.int .u32 0) ∧ w'.cell? ⟨gb139, 9, none⟩ = some (.int .u32 2)) ∧ (Kd.R k25 25 w' w.heap.size (fun k_ => some k_ ≠ (s_.2.1 : Value).ownBlock ∧ some k_ ≠ (s_.2.2.1 : Value).ownBlock ∧ some k_ ≠ (s_.2.2.2 : Value).ownBlock ∧ k_ ≠ gb138 ∧ k_ ≠ gb139) s_.1 y143) ∧ (Kd.R k25 25 w' w.heap.size (fun k_ => some k_ ≠ (s_.1 : Value).ownBlock ∧ some k_ ≠ (s_.2.2.1 : Value).ownBlock ∧ some k_ ≠ (s_.2.2.2 : Value).ownBlock ∧ k_ ≠ gb138 ∧ k_ ≠ gb139) s_.2.1 y146) ∧ (Kd.R k25 25 w' w.heap.size (fun k_ => some k_ ≠ (s_.1 : Value).ownBlock ∧ some k_ ≠ (s_.2.1 : Value).ownBlock ∧ some k_ ≠ (s_.2.2.2 : Value).ownBlock ∧ k_ ≠ gb138 ∧ k_ ≠ gb139) s_.2.2.1 y150) ∧ (Kd.R k25 25 w' w.heap.size (fun k_ => some k_ ≠ (s_.1 : Value).ownBlock ∧ some k_ ≠ (s_.2.1 : Value).ownBlock ∧ some k_ ≠ (s_.2.2.1 : Value).ownBlock ∧ k_ ≠ gb138 ∧ k_ ≠ gb139) s_.2.2.2 y153) ∧ (w'.heap[gb138]? = some (.cells vA0 25 (0, 0))) ∧ (w'.heap[gb139]? = some (.cells vA1 25 (0, 0))) ∧ (Below w.heap.size w w')) ?_ ?_
             rotate_left
             ·
              intro hJ17_19_20_25_28_29
              refine join_ (σ := Value × Value × Value × Value) 18 #[Y,Y,Y,Y,Y,Y,Y,Y,Y,Y,Y,Y,Y,Y,Y,Y,Y,Y,Y,Y,Y,Y,Y,Y,Y,Y,Y,Y,Y,Z,Z,Z,Z,Z,Z,Z,Z,Z,Z,Z,Z,Z,Z,Z,Z,Z,Z] (fun s_ => [(22, s_.1), (24, s_.2.1), (25, .bool false), (30, s_.2.2.1), (33, s_.2.2.2), (26, .bool (!false)), (27, .bool (!false)), (28, .bool (!false)), (29, .agg vA0), (31, .agg vA1), (32, .agg vA1)]) (fun s_ w' => (w'.cell? ⟨gb138, 0, none⟩ = some (.int .i64 4) ∧ w'.cell? ⟨gb138, 1, none⟩ = some (.int .i64 0) ∧ w'.cell? ⟨gb138, 2, none⟩ = some (.int .i64 0) ∧ w'.cell? ⟨gb138, 3, none⟩ = some (.int .u32 0) ∧ w'.cell? ⟨gb138, 4, none⟩ = some (.int .u32 0) ∧ w'.cell? ⟨gb138, 5, none⟩ = some (.int .u32 7) ∧ w'.cell? ⟨gb138, 6, none⟩ = some (.int .u32 0) ∧ w'.cell? ⟨gb138, 7, none⟩ = some (.int .u32 0) ∧ w'.cell? ⟨gb138, 8, none⟩ = some (.int .u32 0) ∧ w'.cell? ⟨gb138, 9, none⟩ = some (.int .u32 1) ∧ w'.cell? ⟨gb139, 0, none⟩ = some (.int .i64 3) ∧ w'.cell? ⟨gb139, 1, none⟩ = some (.int .i64 0) ∧ w'.cell? ⟨gb139, 2, none⟩ = some (.int .i64 0) ∧ w'.cell? ⟨gb139, 3, none⟩ = some (.int .u32 0) ∧ w'.cell? ⟨gb139, 4, none⟩ = some (.int .u32 0) ∧ w'.cell? ⟨gb139, 5, none⟩ = some (.int .u32 7) ∧ w'.cell? ⟨gb139, 6, none⟩ = some (.int .u32 0) ∧ w'.cell? ⟨gb139, 7, none⟩ = some (.int .u32 0) ∧ w'.cell? ⟨gb139, 8, none⟩ = some (.int .u32 0) ∧ w'.cell? ⟨gb139, 9, none⟩ = some (.int .u32 2)) ∧ (Kd.R k25 25 w' w.heap.size (fun k_ => some k_ ≠ (s_.2.1 : Value).ownBlock ∧ some k_ ≠ (s_.2.2.1 : Value).ownBlock ∧ some k_ ≠ (s_.2.2.2 : Value).ownBlock ∧ k_ ≠ gb138 ∧ k_ ≠ gb139) s_.1 y143) ∧ (Kd.R k25 25 w' w.heap.size (fun k_ => some k_ ≠ (s_.1 : Value).ownBlock ∧ some k_ ≠ (s_.2.2.1 : Value).ownBlock ∧ some k_ ≠ (s_.2.2.2 : Value).ownBlock ∧ k_ ≠ gb138 ∧ k_ ≠ gb139) s_.2.1 y146) ∧ (Kd.R k25 25 w' w.heap.size (fun k_ => some k_ ≠ (s_.1 : Value).ownBlock ∧ some k_ ≠ (s_.2.1 : Value).ownBlock ∧ some k_ ≠ (s_.2.2.2 : Value).ownBlock ∧ k_ ≠ gb138 ∧ k_ ≠ gb139) s_.2.2.1 y150) ∧ (Kd.R k25 25 w' w.heap.size (fun k_ => some k_ ≠ (s_.1 : Value).ownBlock ∧ some k_ ≠ (s_.2.1 : Value).ownBlock ∧ some k_ ≠ (s_.2.2.1 : Value).ownBlock ∧ k_ ≠ gb138 ∧ k_ ≠ gb139) s_.2.2.2 y153) ∧ (w'.heap[gb138]? = some (.cells vA0 25 (0, 0))) ∧ (w'.heap[gb139]? = some (.cells vA1 25 (0, 0))) ∧ (Below w.heap.size w w')) ?_ ?_
              rotate_left
              ·
               intro hJ17_19_20_25_28
               refine join_ (σ := Value × Value × Value) 19 #[Y,Y,Y,Y,Y,Y,Y,Y,Y,Y,Y,Y,Y,Y,Y,Y,Y,Y,Y,Y,Y,Y,Y,Y,Y,Y,Y,Y,Z,Z,Z,Z,Z,Z,Z,Z,Z,Z,Z,Z,Z,Z,Z,Z,Z,Z,Z] (fun s_ => [(22, s_.1), (24, s_.2.1), (25, .bool false), (30, s_.2.2), (26, .bool (!false)), (27, .bool (!false)), (28, .bool (!false)), (29, .agg vA0), (31, .agg vA1), (32, .agg vA1)]) (fun s_ w' => (w'.cell? ⟨gb138, 0, none⟩ = some (.int .i64 4) ∧ w'.cell? ⟨gb138, 1, none⟩ = some (.int .i64 0) ∧ w'.cell? ⟨gb138, 2, none⟩ = some (.int .i64 0) ∧ w'.cell? ⟨gb138, 3, none⟩ = some (.int .u32 0) ∧ w'.cell? ⟨gb138, 4, none⟩ = some (.int .u32 0) ∧ w'.cell? ⟨gb138, 5, none⟩ = some (.int .u32 7) ∧ w'.cell? ⟨gb138, 6, none⟩ = some (.int .u32 0) ∧ w'.cell? ⟨gb138, 7, none⟩ = some (.int .u32 0) ∧ w'.cell? ⟨gb138, 8, none⟩ = some (.int .u32 0) ∧ w'.cell? ⟨gb138, 9, none⟩ = some (.int .u32 1) ∧ w'.cell? ⟨gb139, 0, none⟩ = some (.int .i64 3) ∧ w'.cell? ⟨gb139, 1, none⟩ = some (.int .i64 0) ∧ w'.cell? ⟨gb139, 2, none⟩ = some (.int .i64 0) ∧ w'.cell? ⟨gb139, 3, none⟩ = some (.int .u32 0) ∧ w'.cell? ⟨gb139, 4, none⟩ = some (.int .u32 0) ∧ w'.cell? ⟨gb139, 5, none⟩ = some (.int .u32 7) ∧ w'.cell? ⟨gb139, 6, none⟩ = some (.int .u32 0) ∧ w'.cell? ⟨gb139, 7, none⟩ = some (.int .u32 0) ∧ w'.cell? ⟨gb139, 8, none⟩ = some (.int .u32 0) ∧ w'.cell? ⟨gb139, 9, none⟩ = some (.int .u32 2)) ∧ (Kd.R k25 25 w' w.heap.size (fun k_ => some k_ ≠ (s_.2.1 : Value).ownBlock ∧ some k_ ≠ (s_.2.2 : Value).ownBlock ∧ k_ ≠ gb138 ∧ k_ ≠ gb139) s_.1 y143) ∧ (Kd.R k25 25 w' w.heap.size (fun k_ => some k_ ≠ (s_.1 : Value).ownBlock ∧ some k_ ≠ (s_.2.2 : Value).ownBlock ∧ k_ ≠ gb138 ∧ k_ ≠ gb139) s_.2.1 y146) ∧ (Kd.R k25 25 w' w.heap.size (fun k_ => some k_ ≠ (s_.1 : Value).ownBlock ∧ some k_ ≠ (s_.2.1 : Value).ownBlock ∧ k_ ≠ gb138 ∧ k_ ≠ gb139) s_.2.2 y150) ∧ (w'.heap[gb138]? = some (.cells vA0 25 (0, 0))) ∧ (w'.heap[gb139]? = some (.cells vA1 25 (0, 0))) ∧ (Below w.heap.size w w')) ?_ ?_
               rotate_left
               ·
                intro hJ17_19_20_25
                refine join_ (σ := Value × Value × Value) 19 #[Y,Y,Y,Y,Y,Y,Y,Y,Y,Y,Y,Y,Y,Y,Y,Y,Y,Y,Y,Y,Y,Y,Y,Y,Y,Z,Y,Y,Y,Z,Z,Z,Z,Z,Z,Z,Z,Z,Z,Z,Z,Z,Z,Z,Z,Z,Z] (fun s_ => [(22, s_.1), (24, s_.2.1), (25, .bool false), (33, s_.2.2), (26, .bool (!false)), (27, .bool (!false)), (28, .bool (!false)), (29, .agg vA0), (31, .agg vA1), (32, .agg vA1)]) (fun s_ w' => (w'.cell? ⟨gb138, 0, none⟩ = some (.int .i64 4) ∧ w'.cell? ⟨gb138, 1, none⟩ = some (.int .i64 0) ∧ w'.cell? ⟨gb138, 2, none⟩ = some (.int .i64 0) ∧ w'.cell? ⟨gb138, 3, none⟩ = some (.int .u32 0) ∧ w'.cell? ⟨gb138, 4, none⟩ = some (.int .u32 0) ∧ w'.cell? ⟨gb138, 5, none⟩ = some (.int .u32 7) ∧ w'.cell? ⟨gb138, 6, none⟩ = some (.int .u32 0) ∧ w'.cell? ⟨gb138, 7, none⟩ = some (.int .u32 0) ∧ w'.cell? ⟨gb138, 8, none⟩ = some (.int .u32 0) ∧ w'.cell? ⟨gb138, 9, none⟩ = some (.int .u32 1) ∧ w'.cell? ⟨gb139, 0, none⟩ = some (.int .i64 3) ∧ w'.cell? ⟨gb139, 1, none⟩ = some (.int .i64 0) ∧ w'.cell? ⟨gb139, 2, none⟩ = some (.int .i64 0) ∧ w'.cell? ⟨gb139, 3, none⟩ = some (.int .u32 0) ∧ w'.cell? ⟨gb139, 4, none⟩ = some (.int .u32 0) ∧ w'.cell? ⟨gb139, 5, none⟩ = some (.int .u32 7) ∧ w'.cell? ⟨gb139, 6, none⟩ = some (.int .u32 0) ∧ w'.cell? ⟨gb139, 7, none⟩ = some (.int .u32 0) ∧ w'.cell? ⟨gb139, 8, none⟩ = some (.int .u32 0) ∧ w'.cell? ⟨gb139, 9, none⟩ = some (.int .u32 2)) ∧ (Kd.R k25 25 w' w.heap.size (fun k_ => some k_ ≠ (s_.2.1 : Value).ownBlock ∧ some k_ ≠ (s_.2.2 : Value).ownBlock ∧ k_ ≠ gb138 ∧ k_ ≠ gb139) s_.1 y143) ∧ (Kd.R k25 25 w' w.heap.size (fun k_ => some k_ ≠ (s_.1 : Value).ownBlock ∧ some k_ ≠ (s_.2.2 : Value).ownBlock ∧ k_ ≠ gb138 ∧ k_ ≠ gb139) s_.2.1 y146) ∧ (Kd.R k25 25 w' w.heap.size (fun k_ => some k_ ≠ (s_.1 : Value).ownBlock ∧ some k_ ≠ (s_.2.1 : Value).ownBlock ∧ k_ ≠ gb138 ∧ k_ ≠ gb139) s_.2.2 y153) ∧ (w'.heap[gb138]? = some (.cells vA0 25 (0, 0))) ∧ (w'.heap[gb139]? = some (.cells vA1 25 (0, 0))) ∧ (Below w.heap.size w w')) ?_ ?_
                rotate_left
                ·
                 intro hJ17_19_20_28
                 refine join_ (σ := Value × Value) 20 #[Y,Y,Y,Y,Y,Y,Y,Y,Y,Y,Y,Y,Y,Y,Y,Y,Y,Y,Y,Y,Y,Y,Y,Y,Y,Z,Y,Y,Z,Z,Z,Z,Z,Z,Z,Z,Z,Z,Z,Z,Z,Z,Z,Z,Z,Z,Z] (fun s_ => [(22, s_.1), (24, s_.2), (25, .bool false), (26, .bool (!false)), (27, .bool (!false)), (28, .bool (!false)), (29, .agg vA0), (31, .agg vA1), (32, .agg vA1)]) (fun s_ w' => (w'.cell? ⟨gb138, 0, none⟩ = some (.int .i64 4) ∧ w'.cell? ⟨gb138, 1, none⟩ = some (.int .i64 0) ∧ w'.cell? ⟨gb138, 2, none⟩ = some (.int .i64 0) ∧ w'.cell? ⟨gb138, 3, none⟩ = some (.int .u32 0) ∧ w'.cell? ⟨gb138, 4, none⟩ = some (.int .u32 0) ∧ w'.cell? ⟨gb138, 5, none⟩ = some (.int .u32 7) ∧ w'.cell? ⟨gb138, 6, none⟩ = some (.int .u32 0) ∧ w'.cell? ⟨gb138, 7, none⟩ = some (.int .u32 0) ∧ w'.cell? ⟨gb138, 8, none⟩ = some (.int .u32 0) ∧ w'.cell? ⟨gb138, 9, none⟩ = some (.int .u32 1) ∧ w'.cell? ⟨gb139, 0, none⟩ = some (.int .i64 3) ∧ w'.cell? ⟨gb139, 1, none⟩ = some (.int .i64 0) ∧ w'.cell? ⟨gb139, 2, none⟩ = some (.int .i64 0) ∧ w'.cell? ⟨gb139, 3, none⟩ = some (.int .u32 0) ∧ w'.cell? ⟨gb139, 4, none⟩ = some (.int .u32 0) ∧ w'.cell? ⟨gb139, 5, none⟩ = some (.int .u32 7) ∧ w'.cell? ⟨gb139, 6, none⟩ = some (.int .u32 0) ∧ w'.cell? ⟨gb139, 7, none⟩ = some (.int .u32 0) ∧ w'.cell? ⟨gb139, 8, none⟩ = some (.int .u32 0) ∧ w'.cell? ⟨gb139, 9, none⟩ = some (.int .u32 2)) ∧ (Kd.R k25 25 w' w.heap.size (fun k_ => some k_ ≠ (s_.2 : Value).ownBlock ∧ k_ ≠ gb138 ∧ k_ ≠ gb139) s_.1 y143) ∧ (Kd.R k25 25 w' w.heap.size (fun k_ => some k_ ≠ (s_.1 : Value).ownBlock ∧ k_ ≠ gb138 ∧ k_ ≠ gb139) s_.2 y146) ∧ (w'.heap[gb138]? = some (.cells vA0 25 (0, 0))) ∧ (w'.heap[gb139]? = some (.cells vA1 25 (0, 0))) ∧ (Below w.heap.size w w')) ?_ ?_
                 rotate_left
                 ·
                  intro hJ17_19_20
                  refine join_ (σ := Value × Value) 27 #[Y,Y,Y,Y,Y,Y,Y,Y,Y,Y,Y,Y,Y,Y,Y,Y,Y,Y,Y,Y,Z,Z,Z,Z,Z,Z,Z,Z,Z,Z,Z,Z,Z,Z,Z,Z,Z,Z,Z,Z,Z,Z,Z,Z,Z,Z,Z] (fun s_ => [(22, s_.1), (24, s_.2)]) (fun s_ w' => (w'.cell? ⟨gb138, 0, none⟩ = some (.int .i64 4) ∧ w'.cell? ⟨gb138, 1, none⟩ = some (.int .i64 0) ∧ w'.cell? ⟨gb138, 2, none⟩ = some (.int .i64 0) ∧ w'.cell? ⟨gb138, 3, none⟩ = some (.int .u32 0) ∧ w'.cell? ⟨gb138, 4, none⟩ = some (.int .u32 0) ∧ w'.cell? ⟨gb138, 5, none⟩ = some (.int .u32 7) ∧ w'.cell? ⟨gb138, 6, none⟩ = some (.int .u32 0) ∧ w'.cell? ⟨gb138, 7, none⟩ = some (.int .u32 0) ∧ w'.cell? ⟨gb138, 8, none⟩ = some (.int .u32 0) ∧ w'.cell? ⟨gb138, 9, none⟩ = some (.int .u32 1) ∧ w'.cell? ⟨gb139, 0, none⟩ = some (.int .i64 3) ∧ w'.cell? ⟨gb139, 1, none⟩ = some (.int .i64 0) ∧ w'.cell? ⟨gb139, 2, none⟩ = some (.int .i64 0) ∧ w'.cell? ⟨gb139, 3, none⟩ = some (.int .u32 0) ∧ w'.cell? ⟨gb139, 4, none⟩ = some (.int .u32 0) ∧ w'.cell? ⟨gb139, 5, none⟩ = some (.int .u32 7) ∧ w'.cell? ⟨gb139, 6, none⟩ = some (.int .u32 0) ∧ w'.cell? ⟨gb139, 7, none⟩ = some (.int .u32 0) ∧ w'.cell? ⟨gb139, 8, none⟩ = some (.int .u32 0) ∧ w'.cell? ⟨gb139, 9, none⟩ = some (.int .u32 2)) ∧ (Kd.R k25 25 w' w.heap.size (fun k_ => some k_ ≠ (s_.2 : Value).ownBlock ∧ k_ ≠ gb138 ∧ k_ ≠ gb139) s_.1 y143) ∧ (Kd.R k25 25 w' w.heap.size (fun k_ => some k_ ≠ (s_.1 : Value).ownBlock ∧ k_ ≠ gb138 ∧ k_ ≠ gb139) s_.2 y146) ∧ (w'.heap[gb138]? = some (.cells vA0 25 (0, 0))) ∧ (w'.heap[gb139]? = some (.cells vA1 25 (0, 0))) ∧ (Below w.heap.size w w')) ?_ ?_
                  rotate_left
                  ·
                   intro hJ17_19
                   refine join_ (σ := Value) 28 #[Y,Y,Y,Y,Y,Y,Y,Y,Y,Y,Y,Y,Y,Y,Y,Y,Y,Y,Y,Z,Z,Z,Z,Z,Z,Z,Z,Z,Z,Z,Z,Z,Z,Z,Z,Z,Z,Z,Z,Z,Z,Z,Z,Z,Z,Z,Z] (fun s_ => [(22, s_)]) (fun s_ w' => (w'.cell? ⟨gb138, 0, none⟩ = some (.int .i64 4) ∧ w'.cell? ⟨gb138, 1, none⟩ = some (.int .i64 0) ∧ w'.cell? ⟨gb138, 2, none⟩ = some (.int .i64 0) ∧ w'.cell? ⟨gb138, 3, none⟩ = some (.int .u32 0) ∧ w'.cell? ⟨gb138, 4, none⟩ = some (.int .u32 0) ∧ w'.cell? ⟨gb138, 5, none⟩ = some (.int .u32 7) ∧ w'.cell? ⟨gb138, 6, none⟩ = some (.int .u32 0) ∧ w'.cell? ⟨gb138, 7, none⟩ = some (.int .u32 0) ∧ w'.cell? ⟨gb138, 8, none⟩ = some (.int .u32 0) ∧ w'.cell? ⟨gb138, 9, none⟩ = some (.int .u32 1) ∧ w'.cell? ⟨gb139, 0, none⟩ = some (.int .i64 3) ∧ w'.cell? ⟨gb139, 1, none⟩ = some (.int .i64 0) ∧ w'.cell? ⟨gb139, 2, none⟩ = some (.int .i64 0) ∧ w'.cell? ⟨gb139, 3, none⟩ = some (.int .u32 0) ∧ w'.cell? ⟨gb139, 4, none⟩ = some (.int .u32 0) ∧ w'.cell? ⟨gb139, 5, none⟩ = some (.int .u32 7) ∧ w'.cell? ⟨gb139, 6, none⟩ = some (.int .u32 0) ∧ w'.cell? ⟨gb139, 7, none⟩ = some (.int .u32 0) ∧ w'.cell? ⟨gb139, 8, none⟩ = some (.int .u32 0) ∧ w'.cell? ⟨gb139, 9, none⟩ = some (.int .u32 2)) ∧ (Kd.R k25 25 w' w.heap.size (fun k_ => k_ ≠ gb138 ∧ k_ ≠ gb139) s_ y143) ∧ (w'.heap[gb138]? = some (.cells vA0 25 (0, 0))) ∧ (w'.heap[gb139]? = some (.cells vA1 25 (0, 0))) ∧ (Below w.heap.size w w')) ?_ ?_
                   rotate_left
                   ·
                    intro hJ17
                    refine join_ (σ := Value) 28 #[Y,Y,Y,Y,Y,Y,Y,Y,Y,Y,Y,Y,Y,Y,Y,Y,Y,Z,Y,Y,Z,Z,Z,Z,Z,Z,Z,Z,Z,Z,Z,Z,Z,Z,Z,Z,Z,Z,Z,Z,Z,Z,Z,Z,Z,Z,Z] (fun s_ => [(24, s_)]) (fun s_ w' => (w'.cell? ⟨gb138, 0, none⟩ = some (.int .i64 4) ∧ w'.cell? ⟨gb138, 1, none⟩ = some (.int .i64 0) ∧ w'.cell? ⟨gb138, 2, none⟩ = some (.int .i64 0) ∧ w'.cell? ⟨gb138, 3, none⟩ = some (.int .u32 0) ∧ w'.cell? ⟨gb138, 4, none⟩ = some (.int .u32 0) ∧ w'.cell? ⟨gb138, 5, none⟩ = some (.int .u32 7) ∧ w'.cell? ⟨gb138, 6, none⟩ = some (.int .u32 0) ∧ w'.cell? ⟨gb138, 7, none⟩ = some (.int .u32 0) ∧ w'.cell? ⟨gb138, 8, none⟩ = some (.int .u32 0) ∧ w'.cell? ⟨gb138, 9, none⟩ = some (.int .u32 1) ∧ w'.cell? ⟨gb139, 0, none⟩ = some (.int .i64 3) ∧ w'.cell? ⟨gb139, 1, none⟩ = some (.int .i64 0) ∧ w'.cell? ⟨gb139, 2, none⟩ = some (.int .i64 0) ∧ w'.cell? ⟨gb139, 3, none⟩ = some (.int .u32 0) ∧ w'.cell? ⟨gb139, 4, none⟩ = some (.int .u32 0) ∧ w'.cell? ⟨gb139, 5, none⟩ = some (.int .u32 7) ∧ w'.cell? ⟨gb139, 6, none⟩ = some (.int .u32 0) ∧ w'.cell? ⟨gb139, 7, none⟩ = some (.int .u32 0) ∧ w'.cell? ⟨gb139, 8, none⟩ = some (.int .u32 0) ∧ w'.cell? ⟨gb139, 9, none⟩ = some (.int .u32 2)) ∧ (Kd.R k25 25 w' w.heap.size (fun k_ => k_ ≠ gb138 ∧ k_ ≠ gb139) s_ y146) ∧ (w'.heap[gb138]? = some (.cells vA0 25 (0, 0))) ∧ (w'.heap[gb139]? = some (.cells vA1 25 (0, 0))) ∧ (Below w.heap.size w w')) ?_ ?_
                    rotate_left
                    ·
                     intro hJ19
                     refine two_ (i := 17) (j := 19) (Ni := some 22) (Nj := some 24) #[Y,Y,Y,Y,Y,Y,Y,Y,Y,Y,Y,Y,Y,Y,Y,Y,Y,Y,Y,Z,Z,Z,Z,Z,Z,Z,Z,Z,Z,Z,Z,Z,Z,Z,Z,Z,Z,Z,Z,Z,Z,Z,Z,Z,Z,Z,Z] #[Y,Y,Y,Y,Y,Y,Y,Y,Y,Y,Y,Y,Y,Y,Y,Y,Y,Z,Y,Y,Z,Z,Z,Z,Z,Z,Z,Z,Z,Z,Z,Z,Z,Z,Z,Z,Z,Z,Z,Z,Z,Z,Z,Z,Z,Z,Z] rfl rfl rfl rfl (two_of HT_.out (by kernel_rfl)) (by decide) (by decide) (fun K hK => ?_) (fun K hK => ?_)
                     ·
                      skip
                      refine Kd.R_lit_step k25 _ 25 ?hg (N := 22) ?hd (xs := ([(⟨4, 0, 0, 0, 0, 7, 0, 0, 0, 1⟩ : S25), (⟨4, 0, 0, 0, 0, 7, 0, 0, 0, 1⟩ : S25)] : List (S25))) (inner := [.int .i64 4, .int .i64 0, .int .i64 0, .int .u32 0, .int .u32 0, .int .u32 7, .int .u32 0, .int .u32 0, .int .u32 0, .int .u32 1, .int .i64 4, .int .i64 0, .int .i64 0, .int .u32 0, .int .u32 0, .int .u32 7, .int .u32 0, .int .u32 0, .int .u32 0, .int .u32 1]) (ok := fun _ => True) (okp := fun _ => True) ?hr ?hp (fun _ hk => hk) trivial (Below.refl _ _) (Nat.le_refl _) (by simp) ?_; (case hd => rfl); (case hg => rfl); (case hr => first | (go_simp; done) | (go_simp; rfl)); (case hp => exact (Reps.c10 (show Kd.M k25 _ _ _ (⟨4, 0, 0, 0, 0, 7, 0, 0, 0, 1⟩ : S25) [.int .i64 4, .int .i64 0, .int .i64 0, .int .u32 0, .int .u32 0, .int .u32 7, .int .u32 0, .int .u32 0, .int .u32 0, .int .u32 1] from (k25_mkM _ _ _ (⟨4, 0, 0, 0, 0, 7, 0, 0, 0, 1⟩ : S25) )) (Reps.c10 (show Kd.M k25 _ _ _ (⟨4, 0, 0, 0, 0, 7, 0, 0, 0, 1⟩ : S25) [.int .i64 4, .int .i64 0, .int .i64 0, .int .u32 0, .int .u32 0, .int .u32 7, .int .u32 0, .int .u32 0, .int .u32 0, .int .u32 1] from (k25_mkM _ _ _ (⟨4, 0, 0, 0, 0, 7, 0, 0, 0, 1⟩ : S25) )) (Reps.none _ _))))
                      intro v144 w52 ho53 hb hg_ hnew_
                      clear hg_ hnew_
                      (first | rw [← Ny143.out] at ho53 | (simp only [Int.reduceToNat] at ho53; rw [← Ny143.out] at ho53))
                      have n0_ := Aside0.mk (Kd.R_lower (Kd.R_newB (Kd.R_newB ho53 (g := gb138) (o := .cells vA0 25 (0, 0)) (by (with_reducible repeat (first | refine blk_drewN ?_ _ | refine blk_drew ?_ | refine blk_alloc ?_ _)); exact BK138.out)) (g := gb139) (o := .cells vA1 25 (0, 0)) (by (with_reducible repeat (first | refine blk_drewN ?_ _ | refine blk_drew ?_ | refine blk_alloc ?_ _)); exact BK139.out)) (below_size (by repeat (first | (with_reducible first | exact HB.out | apply below_alloc | apply pw_below_drewN | apply below_drew1 | refine below_set ?_ GE138.out | refine below_set ?_ GE139.out) | exact HB.out))))
                      have n1_ := Aside0.mk (blk_below (g := gb138) (o := .cells vA0 25 (0, 0)) (by (with_reducible repeat (first | refine blk_drewN ?_ _ | refine blk_drew ?_ | refine blk_alloc ?_ _)); exact BK138.out) hb)
                      have n2_ := Aside0.mk (blk_below (g := gb139) (o := .cells vA1 25 (0, 0)) (by (with_reducible repeat (first | refine blk_drewN ?_ _ | refine blk_drew ?_ | refine blk_alloc ?_ _)); exact BK139.out) hb)
                      have n3_ := Aside0.mk (below_step (by repeat (first | (with_reducible first | exact HB.out | apply below_alloc | apply pw_below_drewN | apply below_drew1 | refine below_set ?_ GE138.out | refine below_set ?_ GE139.out) | exact HB.out)) hb)
                      clear BK138
                      clear BK139
                      clear HB
                      have HO145 := n0_
                      have BK138 := n1_
                      have BK139 := n2_
                      have HB := n3_
                      clear n0_ n1_ n2_ n3_
                      clear hb ho53
                      refine hK.out _ _ ⟨(blk_cell BK138.out 0).trans rfl, (blk_cell BK138.out 1).trans rfl, (blk_cell BK138.out 2).trans rfl, (blk_cell BK138.out 3).trans rfl, (blk_cell BK138.out 4).trans rfl, (blk_cell BK138.out 5).trans rfl, (blk_cell BK138.out 6).trans rfl, (blk_cell BK138.out 7).trans rfl, (blk_cell BK138.out 8).trans rfl, (blk_cell BK138.out 9).trans rfl, (blk_cell BK139.out 0).trans rfl, (blk_cell BK139.out 1).trans rfl, (blk_cell BK139.out 2).trans rfl, (blk_cell BK139.out 3).trans rfl, (blk_cell BK139.out 4).trans rfl, (blk_cell BK139.out 5).trans rfl, (blk_cell BK139.out 6).trans rfl, (blk_cell BK139.out 7).trans rfl, (blk_cell BK139.out 8).trans rfl, (blk_cell BK139.out 9).trans rfl⟩ (fun hHeld => ?_)
                      clear hK K
                      refine norm_ (a' := ?_) ?_ ?_
                      rotate_left
                      ·
                       show Act.put _ (some 22) _ = _
                       simp only [Act.put, List.setIfInBounds_toArray, List.set_cons_zero, List.set_cons_succ, i64_w, i32_w]
                       rfl
                      exact norm_ (by first | (simp only [putAll, Act.put, List.setIfInBounds_toArray, List.set_cons_zero, List.set_cons_succ]; done) | (simp only [putAll, Act.put, List.setIfInBounds_toArray, List.set_cons_zero, List.set_cons_succ]; rfl)) (hJ17 (v144) _ ⟨hHeld, (by (with_reducible repeat (first | apply Kd.R_alloc | apply Kd.R_drewN | apply Kd.R_drew)); exact Kd.R_mono HO145.out (fun _ hk => ⟨hk.1.2, hk.2⟩)), (by (with_reducible repeat (first | refine blk_drewN ?_ _ | refine blk_drew ?_ | refine blk_alloc ?_ _)); exact BK138.out), (by (with_reducible repeat (first | refine blk_drewN ?_ _ | refine blk_drew ?_ | refine blk_alloc ?_ _)); exact BK139.out), (by repeat (first | (with_reducible first | exact HB.out | apply below_alloc | apply pw_below_drewN | apply below_drew1 | refine below_set ?_ GE138.out | refine below_set ?_ GE139.out) | exact HB.out))⟩)
                     ·
                      skip
                      refine Kd.R_lit_step k25 _ 25 ?hg (N := 24) ?hd (xs := ([(⟨3, 0, 0, 0, 0, 7, 0, 0, 0, 2⟩ : S25)] : List (S25))) (inner := [.int .i64 3, .int .i64 0, .int .i64 0, .int .u32 0, .int .u32 0, .int .u32 7, .int .u32 0, .int .u32 0, .int .u32 0, .int .u32 2]) (ok := fun _ => True) (okp := fun _ => True) ?hr ?hp (fun _ hk => hk) trivial (Below.refl _ _) (Nat.le_refl _) (by simp) ?_; (case hd => rfl); (case hg => rfl); (case hr => first | (go_simp; done) | (go_simp; rfl)); (case hp => exact (Reps.c10 (show Kd.M k25 _ _ _ (⟨3, 0, 0, 0, 0, 7, 0, 0, 0, 2⟩ : S25) [.int .i64 3, .int .i64 0, .int .i64 0, .int .u32 0, .int .u32 0, .int .u32 7, .int .u32 0, .int .u32 0, .int .u32 0, .int .u32 2] from (k25_mkM _ _ _ (⟨3, 0, 0, 0, 0, 7, 0, 0, 0, 2⟩ : S25) )) (Reps.none _ _)))
                      intro v147 w52 ho53 hb hg_ hnew_
                      clear hg_ hnew_
                      (first | rw [← Ny146.out] at ho53 | (simp only [Int.reduceToNat] at ho53; rw [← Ny146.out] at ho53))
                      have n0_ := Aside0.mk (Kd.R_lower (Kd.R_newB (Kd.R_newB ho53 (g := gb138) (o := .cells vA0 25 (0, 0)) (by (with_reducible repeat (first | refine blk_drewN ?_ _ | refine blk_drew ?_ | refine blk_alloc ?_ _)); exact BK138.out)) (g := gb139) (o := .cells vA1 25 (0, 0)) (by (with_reducible repeat (first | refine blk_drewN ?_ _ | refine blk_drew ?_ | refine blk_alloc ?_ _)); exact BK139.out)) (below_size (by repeat (first | (with_reducible first | exact HB.out | apply below_alloc | apply pw_below_drewN | apply below_drew1 | refine below_set ?_ GE138.out | refine below_set ?_ GE139.out) | exact HB.out))))
                      have n1_ := Aside0.mk (blk_below (g := gb138) (o := .cells vA0 25 (0, 0)) (by (with_reducible repeat (first | refine blk_drewN ?_ _ | refine blk_drew ?_ | refine blk_alloc ?_ _)); exact BK138.out) hb)
                      have n2_ := Aside0.mk (blk_below (g := gb139) (o := .cells vA1 25 (0, 0)) (by (with_reducible repeat (first | refine blk_drewN ?_ _ | refine blk_drew ?_ | refine blk_alloc ?_ _)); exact BK139.out) hb)
                      have n3_ := Aside0.mk (below_step (by repeat (first | (with_reducible first | exact HB.out | apply below_alloc | apply pw_below_drewN | apply below_drew1 | refine below_set ?_ GE138.out | refine below_set ?_ GE139.out) | exact HB.out)) hb)
                      clear BK138
                      clear BK139
                      clear HB
                      have HO148 := n0_
                      have BK138 := n1_
                      have BK139 := n2_
                      have HB := n3_
                      clear n0_ n1_ n2_ n3_
                      clear hb ho53
                      refine hK.out _ _ ⟨(blk_cell BK138.out 0).trans rfl, (blk_cell BK138.out 1).trans rfl, (blk_cell BK138.out 2).trans rfl, (blk_cell BK138.out 3).trans rfl, (blk_cell BK138.out 4).trans rfl, (blk_cell BK138.out 5).trans rfl, (blk_cell BK138.out 6).trans rfl, (blk_cell BK138.out 7).trans rfl, (blk_cell BK138.out 8).trans rfl, (blk_cell BK138.out 9).trans rfl, (blk_cell BK139.out 0).trans rfl, (blk_cell BK139.out 1).trans rfl, (blk_cell BK139.out 2).trans rfl, (blk_cell BK139.out 3).trans rfl, (blk_cell BK139.out 4).trans rfl, (blk_cell BK139.out 5).trans rfl, (blk_cell BK139.out 6).trans rfl, (blk_cell BK139.out 7).trans rfl, (blk_cell BK139.out 8).trans rfl, (blk_cell BK139.out 9).trans rfl⟩ (fun hHeld => ?_)
                      clear hK K
                      refine norm_ (a' := ?_) ?_ ?_
                      rotate_left
                      ·
                       show Act.put _ (some 24) _ = _
                       simp only [Act.put, List.setIfInBounds_toArray, List.set_cons_zero, List.set_cons_succ, i64_w, i32_w]
                       rfl
                      exact norm_ (by first | (simp only [putAll, Act.put, List.setIfInBounds_toArray, List.set_cons_zero, List.set_cons_succ]; done) | (simp only [putAll, Act.put, List.setIfInBounds_toArray, List.set_cons_zero, List.set_cons_succ]; rfl)) (hJ19 (v147) _ ⟨hHeld, (by (with_reducible repeat (first | apply Kd.R_alloc | apply Kd.R_drewN | apply Kd.R_drew)); exact Kd.R_mono HO148.out (fun _ hk => ⟨hk.1.2, hk.2⟩)), (by (with_reducible repeat (first | refine blk_drewN ?_ _ | refine blk_drew ?_ | refine blk_alloc ?_ _)); exact BK138.out), (by (with_reducible repeat (first | refine blk_drewN ?_ _ | refine blk_drew ?_ | refine blk_alloc ?_ _)); exact BK139.out), (by repeat (first | (with_reducible first | exact HB.out | apply below_alloc | apply pw_below_drewN | apply below_drew1 | refine below_set ?_ GE138.out | refine below_set ?_ GE139.out) | exact HB.out))⟩)
                    ·
                     skip
                     rintro v147 w54 ⟨hS_, h0_, h1_, h2_, h3_⟩
                     have n0_ : Aside0 (Kd.R k25 25 w54 w.heap.size (fun k_ => k_ ≠ gb138 ∧ k_ ≠ gb139) v147 y146) := ⟨h0_⟩
                     have n1_ : Aside0 (w54.heap[gb138]? = some (.cells vA0 25 (0, 0))) := ⟨h1_⟩
                     have n2_ : Aside0 (w54.heap[gb139]? = some (.cells vA1 25 (0, 0))) := ⟨h2_⟩
                     have n3_ : Aside0 (Below w.heap.size w w54) := ⟨h3_⟩
                     clear BK138
                     clear BK139
                     clear HB
                     clear h0_ h1_ h2_ h3_
                     have HO148 := n0_
                     have BK138 := n1_
                     have BK139 := n2_
                     have HB := n3_
                     clear n0_ n1_ n2_ n3_
                     have hHeld : w54.cell? ⟨gb138, 0, none⟩ = some (.int .i64 4) ∧ w54.cell? ⟨gb138, 1, none⟩ = some (.int .i64 0) ∧ w54.cell? ⟨gb138, 2, none⟩ = some (.int .i64 0) ∧ w54.cell? ⟨gb138, 3, none⟩ = some (.int .u32 0) ∧ w54.cell? ⟨gb138, 4, none⟩ = some (.int .u32 0) ∧ w54.cell? ⟨gb138, 5, none⟩ = some (.int .u32 7) ∧ w54.cell? ⟨gb138, 6, none⟩ = some (.int .u32 0) ∧ w54.cell? ⟨gb138, 7, none⟩ = some (.int .u32 0) ∧ w54.cell? ⟨gb138, 8, none⟩ = some (.int .u32 0) ∧ w54.cell? ⟨gb138, 9, none⟩ = some (.int .u32 1) ∧ w54.cell? ⟨gb139, 0, none⟩ = some (.int .i64 3) ∧ w54.cell? ⟨gb139, 1, none⟩ = some (.int .i64 0) ∧ w54.cell? ⟨gb139, 2, none⟩ = some (.int .i64 0) ∧ w54.cell? ⟨gb139, 3, none⟩ = some (.int .u32 0) ∧ w54.cell? ⟨gb139, 4, none⟩ = some (.int .u32 0) ∧ w54.cell? ⟨gb139, 5, none⟩ = some (.int .u32 7) ∧ w54.cell? ⟨gb139, 6, none⟩ = some (.int .u32 0) ∧ w54.cell? ⟨gb139, 7, none⟩ = some (.int .u32 0) ∧ w54.cell? ⟨gb139, 8, none⟩ = some (.int .u32 0) ∧ w54.cell? ⟨gb139, 9, none⟩ = some (.int .u32 2) := hS_
                     refine norm_ (a' := ?_) ?_ ?_
                     rotate_left
                     ·
                      simp only [putAll, Act.put, List.setIfInBounds_toArray, List.set_cons_zero, List.set_cons_succ]
                      rfl
                     refine one_ (i := 17) (N := some 22) #[Y,Y,Y,Y,Y,Y,Y,Y,Y,Y,Y,Y,Y,Y,Y,Y,Y,Y,Y,Y,Z,Z,Z,Z,Z,Z,Z,Z,Z,Z,Z,Z,Z,Z,Z,Z,Z,Z,Z,Z,Z,Z,Z,Z,Z,Z,Z] rfl rfl (one_of HT_.out (by kernel_rfl)) (by decide) (fun K hK => ?_)
                     refine Kd.R_lit_step k25 _ 25 ?hg (N := 22) ?hd (xs := ([(⟨4, 0, 0, 0, 0, 7, 0, 0, 0, 1⟩ : S25), (⟨4, 0, 0, 0, 0, 7, 0, 0, 0, 1⟩ : S25)] : List (S25))) (inner := [.int .i64 4, .int .i64 0, .int .i64 0, .int .u32 0, .int .u32 0, .int .u32 7, .int .u32 0, .int .u32 0, .int .u32 0, .int .u32 1, .int .i64 4, .int .i64 0, .int .i64 0, .int .u32 0, .int .u32 0, .int .u32 7, .int .u32 0, .int .u32 0, .int .u32 0, .int .u32 1]) (ok := fun _ => True) (okp := fun _ => True) ?hr ?hp (fun _ hk => hk) trivial (Below.refl _ _) (Nat.le_refl _) (by simp) ?_; (case hd => rfl); (case hg => rfl); (case hr => first | (go_simp; done) | (go_simp; rfl)); (case hp => exact (Reps.c10 (show Kd.M k25 _ _ _ (⟨4, 0, 0, 0, 0, 7, 0, 0, 0, 1⟩ : S25) [.int .i64 4, .int .i64 0, .int .i64 0, .int .u32 0, .int .u32 0, .int .u32 7, .int .u32 0, .int .u32 0, .int .u32 0, .int .u32 1] from (k25_mkM _ _ _ (⟨4, 0, 0, 0, 0, 7, 0, 0, 0, 1⟩ : S25) )) (Reps.c10 (show Kd.M k25 _ _ _ (⟨4, 0, 0, 0, 0, 7, 0, 0, 0, 1⟩ : S25) [.int .i64 4, .int .i64 0, .int .i64 0, .int .u32 0, .int .u32 0, .int .u32 7, .int .u32 0, .int .u32 0, .int .u32 0, .int .u32 1] from (k25_mkM _ _ _ (⟨4, 0, 0, 0, 0, 7, 0, 0, 0, 1⟩ : S25) )) (Reps.none _ _))))
                     intro v144 w55 ho56 hb hg_ hnew_
                     clear hg_ hnew_
                     (first | rw [← Ny143.out] at ho56 | (simp only [Int.reduceToNat] at ho56; rw [← Ny143.out] at ho56))
                     have n0_ := Aside0.mk (Kd.R_elder' (by (with_reducible repeat (first | apply Kd.R_alloc | apply Kd.R_drewN | apply Kd.R_drew)); exact HO148.out) (Kd.R_base ho56) hb)
                     have n1_ := Aside0.mk (Kd.R_lower (Kd.R_newB (Kd.R_newB (Kd.R_new' ho56 (Kd.R_lt (by (with_reducible repeat (first | apply Kd.R_alloc | apply Kd.R_drewN | apply Kd.R_drew)); exact HO148.out))) (g := gb138) (o := .cells vA0 25 (0, 0)) (by (with_reducible repeat (first | refine blk_drewN ?_ _ | refine blk_drew ?_ | refine blk_alloc ?_ _)); exact BK138.out)) (g := gb139) (o := .cells vA1 25 (0, 0)) (by (with_reducible repeat (first | refine blk_drewN ?_ _ | refine blk_drew ?_ | refine blk_alloc ?_ _)); exact BK139.out)) (below_size (by repeat (first | (with_reducible first | exact HB.out | apply below_alloc | apply pw_below_drewN | apply below_drew1 | refine below_set ?_ GE138.out | refine below_set ?_ GE139.out) | exact HB.out))))
                     have n2_ := Aside0.mk (blk_below (g := gb138) (o := .cells vA0 25 (0, 0)) (by (with_reducible repeat (first | refine blk_drewN ?_ _ | refine blk_drew ?_ | refine blk_alloc ?_ _)); exact BK138.out) hb)
                     have n3_ := Aside0.mk (blk_below (g := gb139) (o := .cells vA1 25 (0, 0)) (by (with_reducible repeat (first | refine blk_drewN ?_ _ | refine blk_drew ?_ | refine blk_alloc ?_ _)); exact BK139.out) hb)
                     have n4_ := Aside0.mk (below_step (by repeat (first | (with_reducible first | exact HB.out | apply below_alloc | apply pw_below_drewN | apply below_drew1 | refine below_set ?_ GE138.out | refine below_set ?_ GE139.out) | exact HB.out)) hb)
                     clear HO148
                     clear BK138
                     clear BK139
                     clear HB
                     have HO148 := n0_
                     have HO145 := n1_
                     have BK138 := n2_
                     have BK139 := n3_
                     have HB := n4_
                     clear n0_ n1_ n2_ n3_ n4_
                     clear hb ho56
                     refine hK.out _ _ ⟨(blk_cell BK138.out 0).trans rfl, (blk_cell BK138.out 1).trans rfl, (blk_cell BK138.out 2).trans rfl, (blk_cell BK138.out 3).trans rfl, (blk_cell BK138.out 4).trans rfl, (blk_cell BK138.out 5).trans rfl, (blk_cell BK138.out 6).trans rfl, (blk_cell BK138.out 7).trans rfl, (blk_cell BK138.out 8).trans rfl, (blk_cell BK138.out 9).trans rfl, (blk_cell BK139.out 0).trans rfl, (blk_cell BK139.out 1).trans rfl, (blk_cell BK139.out 2).trans rfl, (blk_cell BK139.out 3).trans rfl, (blk_cell BK139.out 4).trans rfl, (blk_cell BK139.out 5).trans rfl, (blk_cell BK139.out 6).trans rfl, (blk_cell BK139.out 7).trans rfl, (blk_cell BK139.out 8).trans rfl, (blk_cell BK139.out 9).trans rfl⟩ (fun hHeld => ?_)
                     clear hK K
                     refine norm_ (a' := ?_) ?_ ?_
                     rotate_left
                     ·
                      show Act.put _ (some 22) _ = _
                      simp only [Act.put, List.setIfInBounds_toArray, List.set_cons_zero, List.set_cons_succ, i64_w, i32_w]
                      rfl
                     exact norm_ (by first | (simp only [putAll, Act.put, List.setIfInBounds_toArray, List.set_cons_zero, List.set_cons_succ]; done) | (simp only [putAll, Act.put, List.setIfInBounds_toArray, List.set_cons_zero, List.set_cons_succ]; rfl)) (hJ17_19 (v144, v147) _ ⟨hHeld, (by (with_reducible repeat (first | apply Kd.R_alloc | apply Kd.R_drewN | apply Kd.R_drew)); exact Kd.R_mono HO145.out (fun _ hk => ⟨hk.1.1.2, ⟨hk.1.2, hk.2⟩⟩)), (by (with_reducible repeat (first | apply Kd.R_alloc | apply Kd.R_drewN | apply Kd.R_drew)); exact Kd.R_mono HO148.out (fun _ hk => ⟨hk.2, ⟨hk.1.1, hk.1.2⟩⟩)), (by (with_reducible repeat (first | refine blk_drewN ?_ _ | refine blk_drew ?_ | refine blk_alloc ?_ _)); exact BK138.out), (by (with_reducible repeat (first | refine blk_drewN ?_ _ | refine blk_drew ?_ | refine blk_alloc ?_ _)); exact BK139.out), (by repeat (first | (with_reducible first | exact HB.out | apply below_alloc | apply pw_below_drewN | apply below_drew1 | refine below_set ?_ GE138.out | refine below_set ?_ GE139.out) | exact HB.out))⟩)
                   ·
                    skip
                    rintro v144 w54 ⟨hS_, h0_, h1_, h2_, h3_⟩
                    have n0_ : Aside0 (Kd.R k25 25 w54 w.heap.size (fun k_ => k_ ≠ gb138 ∧ k_ ≠ gb139) v144 y143) := ⟨h0_⟩
                    have n1_ : Aside0 (w54.heap[gb138]? = some (.cells vA0 25 (0, 0))) := ⟨h1_⟩
                    have n2_ : Aside0 (w54.heap[gb139]? = some (.cells vA1 25 (0, 0))) := ⟨h2_⟩
                    have n3_ : Aside0 (Below w.heap.size w w54) := ⟨h3_⟩
                    clear BK138
                    clear BK139
                    clear HB
                    clear h0_ h1_ h2_ h3_
                    have HO145 := n0_
                    have BK138 := n1_
                    have BK139 := n2_
                    have HB := n3_
                    clear n0_ n1_ n2_ n3_
                    have hHeld : w54.cell? ⟨gb138, 0, none⟩ = some (.int .i64 4) ∧ w54.cell? ⟨gb138, 1, none⟩ = some (.int .i64 0) ∧ w54.cell? ⟨gb138, 2, none⟩ = some (.int .i64 0) ∧ w54.cell? ⟨gb138, 3, none⟩ = some (.int .u32 0) ∧ w54.cell? ⟨gb138, 4, none⟩ = some (.int .u32 0) ∧ w54.cell? ⟨gb138, 5, none⟩ = some (.int .u32 7) ∧ w54.cell? ⟨gb138, 6, none⟩ = some (.int .u32 0) ∧ w54.cell? ⟨gb138, 7, none⟩ = some (.int .u32 0) ∧ w54.cell? ⟨gb138, 8, none⟩ = some (.int .u32 0) ∧ w54.cell? ⟨gb138, 9, none⟩ = some (.int .u32 1) ∧ w54.cell? ⟨gb139, 0, none⟩ = some (.int .i64 3) ∧ w54.cell? ⟨gb139, 1, none⟩ = some (.int .i64 0) ∧ w54.cell? ⟨gb139, 2, none⟩ = some (.int .i64 0) ∧ w54.cell? ⟨gb139, 3, none⟩ = some (.int .u32 0) ∧ w54.cell? ⟨gb139, 4, none⟩ = some (.int .u32 0) ∧ w54.cell? ⟨gb139, 5, none⟩ = some (.int .u32 7) ∧ w54.cell? ⟨gb139, 6, none⟩ = some (.int .u32 0) ∧ w54.cell? ⟨gb139, 7, none⟩ = some (.int .u32 0) ∧ w54.cell? ⟨gb139, 8, none⟩ = some (.int .u32 0) ∧ w54.cell? ⟨gb139, 9, none⟩ = some (.int .u32 2) := hS_
                    refine norm_ (a' := ?_) ?_ ?_
                    rotate_left
                    ·
                     simp only [putAll, Act.put, List.setIfInBounds_toArray, List.set_cons_zero, List.set_cons_succ]
                     rfl
                    refine one_ (i := 19) (N := some 24) #[Y,Y,Y,Y,Y,Y,Y,Y,Y,Y,Y,Y,Y,Y,Y,Y,Y,Y,Y,Y,Z,Z,Z,Z,Z,Z,Z,Z,Z,Z,Z,Z,Z,Z,Z,Z,Z,Z,Z,Z,Z,Z,Z,Z,Z,Z,Z] rfl rfl (one_of HT_.out (by kernel_rfl)) (by decide) (fun K hK => ?_)
                    refine Kd.R_lit_step k25 _ 25 ?hg (N := 24) ?hd (xs := ([(⟨3, 0, 0, 0, 0, 7, 0, 0, 0, 2⟩ : S25)] : List (S25))) (inner := [.int .i64 3, .int .i64 0, .int .i64 0, .int .u32 0, .int .u32 0, .int .u32 7, .int .u32 0, .int .u32 0, .int .u32 0, .int .u32 2]) (ok := fun _ => True) (okp := fun _ => True) ?hr ?hp (fun _ hk => hk) trivial (Below.refl _ _) (Nat.le_refl _) (by simp) ?_; (case hd => rfl); (case hg => rfl); (case hr => first | (go_simp; done) | (go_simp; rfl)); (case hp => exact (Reps.c10 (show Kd.M k25 _ _ _ (⟨3, 0, 0, 0, 0, 7, 0, 0, 0, 2⟩ : S25) [.int .i64 3, .int .i64 0, .int .i64 0, .int .u32 0, .int .u32 0, .int .u32 7, .int .u32 0, .int .u32 0, .int .u32 0, .int .u32 2] from (k25_mkM _ _ _ (⟨3, 0, 0, 0, 0, 7, 0, 0, 0, 2⟩ : S25) )) (Reps.none _ _)))
                    intro v147 w55 ho56 hb hg_ hnew_
                    clear hg_ hnew_
                    (first | rw [← Ny146.out] at ho56 | (simp only [Int.reduceToNat] at ho56; rw [← Ny146.out] at ho56))
                    have n0_ := Aside0.mk (Kd.R_elder' (by (with_reducible repeat (first | apply Kd.R_alloc | apply Kd.R_drewN | apply Kd.R_drew)); exact HO145.out) (Kd.R_base ho56) hb)
                    have n1_ := Aside0.mk (Kd.R_lower (Kd.R_newB (Kd.R_newB (Kd.R_new' ho56 (Kd.R_lt (by (with_reducible repeat (first | apply Kd.R_alloc | apply Kd.R_drewN | apply Kd.R_drew)); exact HO145.out))) (g := gb138) (o := .cells vA0 25 (0, 0)) (by (with_reducible repeat (first | refine blk_drewN ?_ _ | refine blk_drew ?_ | refine blk_alloc ?_ _)); exact BK138.out)) (g := gb139) (o := .cells vA1 25 (0, 0)) (by (with_reducible repeat (first | refine blk_drewN ?_ _ | refine blk_drew ?_ | refine blk_alloc ?_ _)); exact BK139.out)) (below_size (by repeat (first | (with_reducible first | exact HB.out | apply below_alloc | apply pw_below_drewN | apply below_drew1 | refine below_set ?_ GE138.out | refine below_set ?_ GE139.out) | exact HB.out))))
                    have n2_ := Aside0.mk (blk_below (g := gb138) (o := .cells vA0 25 (0, 0)) (by (with_reducible repeat (first | refine blk_drewN ?_ _ | refine blk_drew ?_ | refine blk_alloc ?_ _)); exact BK138.out) hb)
                    have n3_ := Aside0.mk (blk_below (g := gb139) (o := .cells vA1 25 (0, 0)) (by (with_reducible repeat (first | refine blk_drewN ?_ _ | refine blk_drew ?_ | refine blk_alloc ?_ _)); exact BK139.out) hb)
                    have n4_ := Aside0.mk (below_step (by repeat (first | (with_reducible first | exact HB.out | apply below_alloc | apply pw_below_drewN | apply below_drew1 | refine below_set ?_ GE138.out | refine below_set ?_ GE139.out) | exact HB.out)) hb)
                    clear HO145
                    clear BK138
                    clear BK139
                    clear HB
                    have HO145 := n0_
                    have HO148 := n1_
                    have BK138 := n2_
                    have BK139 := n3_
                    have HB := n4_
                    clear n0_ n1_ n2_ n3_ n4_
                    clear hb ho56
                    refine hK.out _ _ ⟨(blk_cell BK138.out 0).trans rfl, (blk_cell BK138.out 1).trans rfl, (blk_cell BK138.out 2).trans rfl, (blk_cell BK138.out 3).trans rfl, (blk_cell BK138.out 4).trans rfl, (blk_cell BK138.out 5).trans rfl, (blk_cell BK138.out 6).trans rfl, (blk_cell BK138.out 7).trans rfl, (blk_cell BK138.out 8).trans rfl, (blk_cell BK138.out 9).trans rfl, (blk_cell BK139.out 0).trans rfl, (blk_cell BK139.out 1).trans rfl, (blk_cell BK139.out 2).trans rfl, (blk_cell BK139.out 3).trans rfl, (blk_cell BK139.out 4).trans rfl, (blk_cell BK139.out 5).trans rfl, (blk_cell BK139.out 6).trans rfl, (blk_cell BK139.out 7).trans rfl, (blk_cell BK139.out 8).trans rfl, (blk_cell BK139.out 9).trans rfl⟩ (fun hHeld => ?_)
                    clear hK K
                    refine norm_ (a' := ?_) ?_ ?_
                    rotate_left
                    ·
                     show Act.put _ (some 24) _ = _
                     simp only [Act.put, List.setIfInBounds_toArray, List.set_cons_zero, List.set_cons_succ, i64_w, i32_w]
                     rfl
                    exact norm_ (by first | (simp only [putAll, Act.put, List.setIfInBounds_toArray, List.set_cons_zero, List.set_cons_succ]; done) | (simp only [putAll, Act.put, List.setIfInBounds_toArray, List.set_cons_zero, List.set_cons_succ]; rfl)) (hJ17_19 (v144, v147) _ ⟨hHeld, (by (with_reducible repeat (first | apply Kd.R_alloc | apply Kd.R_drewN | apply Kd.R_drew)); exact Kd.R_mono HO145.out (fun _ hk => ⟨hk.2, ⟨hk.1.1, hk.1.2⟩⟩)), (by (with_reducible repeat (first | apply Kd.R_alloc | apply Kd.R_drewN | apply Kd.R_drew)); exact Kd.R_mono HO148.out (fun _ hk => ⟨hk.1.1.2, ⟨hk.1.2, hk.2⟩⟩)), (by (with_reducible repeat (first | refine blk_drewN ?_ _ | refine blk_drew ?_ | refine blk_alloc ?_ _)); exact BK138.out), (by (with_reducible repeat (first | refine blk_drewN ?_ _ | refine blk_drew ?_ | refine blk_alloc ?_ _)); exact BK139.out), (by repeat (first | (with_reducible first | exact HB.out | apply below_alloc | apply pw_below_drewN | apply below_drew1 | refine below_set ?_ GE138.out | refine below_set ?_ GE139.out) | exact HB.out))⟩)
                  ·
                   skip
                   rintro ⟨v144, v147⟩ w56 ⟨hS_, h0_, h1_, h2_, h3_, h4_⟩
                   have n0_ : Aside0 (Kd.R k25 25 w56 w.heap.size (fun k_ => some k_ ≠ (v147 : Value).ownBlock ∧ k_ ≠ gb138 ∧ k_ ≠ gb139) v144 y143) := ⟨h0_⟩
                   have n1_ : Aside0 (Kd.R k25 25 w56 w.heap.size (fun k_ => some k_ ≠ (v144 : Value).ownBlock ∧ k_ ≠ gb138 ∧ k_ ≠ gb139) v147 y146) := ⟨h1_⟩
                   have n2_ : Aside0 (w56.heap[gb138]? = some (.cells vA0 25 (0, 0))) := ⟨h2_⟩
                   have n3_ : Aside0 (w56.heap[gb139]? = some (.cells vA1 25 (0, 0))) := ⟨h3_⟩
                   have n4_ : Aside0 (Below w.heap.size w w56) := ⟨h4_⟩
                   clear BK138
                   clear BK139
                   clear HB
                   clear h0_ h1_ h2_ h3_ h4_
                   have HO145 := n0_
                   have HO148 := n1_
                   have BK138 := n2_
                   have BK139 := n3_
                   have HB := n4_
                   clear n0_ n1_ n2_ n3_ n4_
                   have hHeld : w56.cell? ⟨gb138, 0, none⟩ = some (.int .i64 4) ∧ w56.cell? ⟨gb138, 1, none⟩ = some (.int .i64 0) ∧ w56.cell? ⟨gb138, 2, none⟩ = some (.int .i64 0) ∧ w56.cell? ⟨gb138, 3, none⟩ = some (.int .u32 0) ∧ w56.cell? ⟨gb138, 4, none⟩ = some (.int .u32 0) ∧ w56.cell? ⟨gb138, 5, none⟩ = some (.int .u32 7) ∧ w56.cell? ⟨gb138, 6, none⟩ = some (.int .u32 0) ∧ w56.cell? ⟨gb138, 7, none⟩ = some (.int .u32 0) ∧ w56.cell? ⟨gb138, 8, none⟩ = some (.int .u32 0) ∧ w56.cell? ⟨gb138, 9, none⟩ = some (.int .u32 1) ∧ w56.cell? ⟨gb139, 0, none⟩ = some (.int .i64 3) ∧ w56.cell? ⟨gb139, 1, none⟩ = some (.int .i64 0) ∧ w56.cell? ⟨gb139, 2, none⟩ = some (.int .i64 0) ∧ w56.cell? ⟨gb139, 3, none⟩ = some (.int .u32 0) ∧ w56.cell? ⟨gb139, 4, none⟩ = some (.int .u32 0) ∧ w56.cell? ⟨gb139, 5, none⟩ = some (.int .u32 7) ∧ w56.cell? ⟨gb139, 6, none⟩ = some (.int .u32 0) ∧ w56.cell? ⟨gb139, 7, none⟩ = some (.int .u32 0) ∧ w56.cell? ⟨gb139, 8, none⟩ = some (.int .u32 0) ∧ w56.cell? ⟨gb139, 9, none⟩ = some (.int .u32 2) := hS_
                   obtain ⟨Ao57, co57, eo57⟩ := Kd.R_slice HO145.out
                   (first | subst eo57 | (injection eo57 with f1_ f2_ f3_; have f4_ := f1_.symm; have f5_ := f3_.symm; clear f1_ f2_ f3_; subst f4_; subst f5_))
                   obtain ⟨Ao58, co58, eo58⟩ := Kd.R_slice HO148.out
                   (first | subst eo58 | (injection eo58 with f1_ f2_ f3_; have f4_ := f1_.symm; have f5_ := f3_.symm; clear f1_ f2_ f3_; subst f4_; subst f5_))
                   refine norm_ (a' := ?_) ?_ ?_
                   rotate_left
                   ·
                    simp only [putAll, Act.put, List.setIfInBounds_toArray, List.set_cons_zero, List.set_cons_succ]
                    rfl
                   refine one_ (i := 20) (N := some 25) #[Y,Y,Y,Y,Y,Y,Y,Y,Y,Y,Y,Y,Y,Y,Y,Y,Y,Y,Y,Y,Y,Z,Z,Z,Z,Z,Z,Z,Z,Z,Z,Z,Z,Z,Z,Z,Z,Z,Z,Z,Z,Z,Z,Z,Z,Z,Z] rfl rfl (one_of HT_.out (by kernel_rfl)) (by decide) (fun K hK => ?_)
                   refine goes_ Try.func15 (by kernel_rfl) rfl #[.slice Ao57 y143.length co57, .slice Ao58 y146.length co58, .int .i64 32] (by rfl) rfl rfl (by (try simp only [List.map_toArray, List.map_cons, List.map_nil]); first | done | rfl | (simp only [List.length_drop, List.length_take]; rfl)) ?_
                   with_reducible refine (log_Match.calls _ _ y143 _ _ y146 32 false _ ?side1 ?side2 ?side3 ?side4 A16.out).mono ?_
                   (case side1 => repeat (first | exact (Kd.R_reads' HO145.out).2.2 | (with_reducible refine Kd.C_alloc ?_ _) | (with_reducible refine Kd.C_drewN ?_ _) | (with_reducible refine Kd.C_drew ?_)))
                   (case side2 => exact (Kd.R_reads' HO145.out).2.1)
                   (case side3 => repeat (first | exact (Kd.R_reads' HO148.out).2.2 | (with_reducible refine Kd.C_alloc ?_ _) | (with_reducible refine Kd.C_drewN ?_ _) | (with_reducible refine Kd.C_drew ?_)))
                   (case side4 => exact (Kd.R_reads' HO148.out).2.1)
                   rintro e w59 ⟨rfl, hb⟩
                   refine ⟨_, rfl, ?_⟩
                   have n0_ := Aside0.mk (Kd.R_below (by (with_reducible repeat (first | apply Kd.R_alloc | apply Kd.R_drewN | apply Kd.R_drew)); exact HO145.out) hb)
                   have n1_ := Aside0.mk (Kd.R_below (by (with_reducible repeat (first | apply Kd.R_alloc | apply Kd.R_drewN | apply Kd.R_drew)); exact HO148.out) hb)
                   have n2_ := Aside0.mk (blk_below (g := gb138) (o := .cells vA0 25 (0, 0)) (by (with_reducible repeat (first | refine blk_drewN ?_ _ | refine blk_drew ?_ | refine blk_alloc ?_ _)); exact BK138.out) hb)
                   have n3_ := Aside0.mk (blk_below (g := gb139) (o := .cells vA1 25 (0, 0)) (by (with_reducible repeat (first | refine blk_drewN ?_ _ | refine blk_drew ?_ | refine blk_alloc ?_ _)); exact BK139.out) hb)
                   have n4_ := Aside0.mk (below_step (by repeat (first | (with_reducible first | exact HB.out | apply below_alloc | apply pw_below_drewN | apply below_drew1 | refine below_set ?_ GE138.out | refine below_set ?_ GE139.out) | exact HB.out)) hb)
                   clear HO145
                   clear HO148
                   clear BK138
                   clear BK139
                   clear HB
                   have HO145 := n0_
                   have HO148 := n1_
                   have BK138 := n2_
                   have BK139 := n3_
                   have HB := n4_
                   clear n0_ n1_ n2_ n3_ n4_
                   (try clear hb)
                   (try clear hb2)
                   (try clear hk)
                   (try clear hi)
                   refine hK.out _ _ ⟨(blk_cell BK138.out 0).trans rfl, (blk_cell BK138.out 1).trans rfl, (blk_cell BK138.out 2).trans rfl, (blk_cell BK138.out 3).trans rfl, (blk_cell BK138.out 4).trans rfl, (blk_cell BK138.out 5).trans rfl, (blk_cell BK138.out 6).trans rfl, (blk_cell BK138.out 7).trans rfl, (blk_cell BK138.out 8).trans rfl, (blk_cell BK138.out 9).trans rfl, (blk_cell BK139.out 0).trans rfl, (blk_cell BK139.out 1).trans rfl, (blk_cell BK139.out 2).trans rfl, (blk_cell BK139.out 3).trans rfl, (blk_cell BK139.out 4).trans rfl, (blk_cell BK139.out 5).trans rfl, (blk_cell BK139.out 6).trans rfl, (blk_cell BK139.out 7).trans rfl, (blk_cell BK139.out 8).trans rfl, (blk_cell BK139.out 9).trans rfl⟩ (fun hHeld => ?_)
                   clear hK K
                   refine norm_ (a' := ?_) ?_ ?_
                   rotate_left
                   ·
                    show Act.put _ (some 25) _ = _
                    simp only [Act.put, List.setIfInBounds_toArray, List.set_cons_zero, List.set_cons_succ, i64_w, i32_w]
                    rfl
                   refine pure_ (i := 21) (N := some 26) (v := ?_) (a' := ?_) #[Y,Y,Y,Y,Y,Y,Y,Y,Y,Y,Y,Y,Y,Y,Y,Y,Y,Y,Y,Y,Y,Y,Z,Z,Z,Z,Z,Z,Z,Z,Z,Z,Z,Z,Z,Z,Z,Z,Z,Z,Z,Z,Z,Z,Z,Z,Z] rfl rfl (any_of HT_.out (by kernel_rfl)) (fun _ _ _ h => h) (Or.inl ⟨by rfl, ?_⟩) ?_ ?_
                   rotate_left
                   ·
                    intro w'
                    go_simp
                    with_reducible rfl
                   rotate_left
                   ·
                    simp only [Act.put, List.setIfInBounds_toArray, List.set_cons_zero, List.set_cons_succ, i64_w, i32_w]
                    rfl
                   refine pure_ (i := 22) (N := some 27) (v := ?_) (a' := ?_) #[Y,Y,Y,Y,Y,Y,Y,Y,Y,Y,Y,Y,Y,Y,Y,Y,Y,Y,Y,Y,Y,Y,Y,Z,Z,Z,Z,Z,Z,Z,Z,Z,Z,Z,Z,Z,Z,Z,Z,Z,Z,Z,Z,Z,Z,Z,Z] rfl rfl (any_of HT_.out (by kernel_rfl)) (fun _ _ _ h => h) (Or.inl ⟨by rfl, ?_⟩) ?_ ?_
                   rotate_left
                   ·
                    intro w'
                    go_simp
                    with_reducible rfl
                   rotate_left
                   ·
                    simp only [Act.put, List.setIfInBounds_toArray, List.set_cons_zero, List.set_cons_succ, i64_w, i32_w]
                    rfl
                   refine pure_ (i := 23) (N := some 28) (v := ?_) (a' := ?_) #[Y,Y,Y,Y,Y,Y,Y,Y,Y,Y,Y,Y,Y,Y,Y,Y,Y,Y,Y,Y,Y,Y,Y,Y,Z,Z,Z,Z,Z,Z,Z,Z,Z,Z,Z,Z,Z,Z,Z,Z,Z,Z,Z,Z,Z,Z,Z] rfl rfl (any_of HT_.out (by kernel_rfl)) (fun _ _ _ h => h) (Or.inl ⟨by rfl, ?_⟩) ?_ ?_
                   rotate_left
                   ·
                    intro w'
                    go_simp
                    with_reducible rfl
                   rotate_left
                   ·
                    simp only [Act.put, List.setIfInBounds_toArray, List.set_cons_zero, List.set_cons_succ, i64_w, i32_w]
                    rfl
                   refine take_ (i := 24) (N := some 29) (v := ?_) (a' := ?_) #[Y,Y,Y,Y,Y,Y,Y,Y,Y,Y,Y,Y,Y,Y,Y,Y,Y,Y,Y,Y,Y,Y,Y,Y,Y,Z,Z,Z,Z,Z,Z,Z,Z,Z,Z,Z,Z,Z,Z,Z,Z,Z,Z,Z,Z,Z,Z] rfl rfl (take_ofW HT_.out HW_.out (by kernel_rfl)) (fun _ _ _ h => h) (Or.inl ⟨by rfl, ?_⟩) hHeld ?_ ?_
                   rotate_left
                   ·
                    rintro w' ⟨s0, s1, s2, s3, s4, s5, s6, s7, s8, s9, s10, s11, s12, s13, s14, s15, s16, s17, s18, s19⟩
                    go_simp
                    with_reducible rfl
                   rotate_left
                   ·
                    simp only [Act.put, List.setIfInBounds_toArray, List.set_cons_zero, List.set_cons_succ, i64_w, i32_w]
                    rfl
                   refine take_ (i := 26) (N := some 31) (v := ?_) (a' := ?_) #[Y,Y,Y,Y,Y,Y,Y,Y,Y,Y,Y,Y,Y,Y,Y,Y,Y,Y,Y,Y,Y,Y,Y,Y,Y,Z,Y,Z,Z,Z,Z,Z,Z,Z,Z,Z,Z,Z,Z,Z,Z,Z,Z,Z,Z,Z,Z] rfl rfl (take_ofW HT_.out HW_.out (by kernel_rfl)) (fun _ _ _ h => h) (Or.inl ⟨by rfl, ?_⟩) hHeld ?_ ?_
                   rotate_left
                   ·
                    rintro w' ⟨s0, s1, s2, s3, s4, s5, s6, s7, s8, s9, s10, s11, s12, s13, s14, s15, s16, s17, s18, s19⟩
                    go_simp
                    with_reducible rfl
                   rotate_left
                   ·
                    simp only [Act.put, List.setIfInBounds_toArray, List.set_cons_zero, List.set_cons_succ, i64_w, i32_w]
                    rfl
                   refine take_ (i := 27) (N := some 32) (v := ?_) (a' := ?_) #[Y,Y,Y,Y,Y,Y,Y,Y,Y,Y,Y,Y,Y,Y,Y,Y,Y,Y,Y,Y,Y,Y,Y,Y,Y,Z,Y,Y,Z,Z,Z,Z,Z,Z,Z,Z,Z,Z,Z,Z,Z,Z,Z,Z,Z,Z,Z] rfl rfl (take_ofW HT_.out HW_.out (by kernel_rfl)) (fun _ _ _ h => h) (Or.inl ⟨by rfl, ?_⟩) hHeld ?_ ?_
                   rotate_left
                   ·
                    rintro w' ⟨s0, s1, s2, s3, s4, s5, s6, s7, s8, s9, s10, s11, s12, s13, s14, s15, s16, s17, s18, s19⟩
                    go_simp
                    with_reducible rfl
                   rotate_left
                   ·
                    simp only [Act.put, List.setIfInBounds_toArray, List.set_cons_zero, List.set_cons_succ, i64_w, i32_w]
                    rfl
                   exact norm_ (by first | (simp only [putAll, Act.put, List.setIfInBounds_toArray, List.set_cons_zero, List.set_cons_succ]; done) | (simp only [putAll, Act.put, List.setIfInBounds_toArray, List.set_cons_zero, List.set_cons_succ]; rfl)) (hJ17_19_20 (.slice Ao57 y143.length co57, .slice Ao58 y146.length co58) _ ⟨hHeld, (by (with_reducible repeat (first | apply Kd.R_alloc | apply Kd.R_drewN | apply Kd.R_drew)); exact HO145.out), (by (with_reducible repeat (first | apply Kd.R_alloc | apply Kd.R_drewN | apply Kd.R_drew)); exact HO148.out), (by (with_reducible repeat (first | refine blk_drewN ?_ _ | refine blk_drew ?_ | refine blk_alloc ?_ _)); exact BK138.out), (by (with_reducible repeat (first | refine blk_drewN ?_ _ | refine blk_drew ?_ | refine blk_alloc ?_ _)); exact BK139.out), (by repeat (first | (with_reducible first | exact HB.out | apply below_alloc | apply pw_below_drewN | apply below_drew1 | refine below_set ?_ GE138.out | refine below_set ?_ GE139.out) | exact HB.out))⟩)
                 ·
                  skip
                  rintro ⟨v144, v147⟩ w59 ⟨hS_, h0_, h1_, h2_, h3_, h4_⟩
                  have n0_ : Aside0 (Kd.R k25 25 w59 w.heap.size (fun k_ => some k_ ≠ (v147 : Value).ownBlock ∧ k_ ≠ gb138 ∧ k_ ≠ gb139) v144 y143) := ⟨h0_⟩
                  have n1_ : Aside0 (Kd.R k25 25 w59 w.heap.size (fun k_ => some k_ ≠ (v144 : Value).ownBlock ∧ k_ ≠ gb138 ∧ k_ ≠ gb139) v147 y146) := ⟨h1_⟩
                  have n2_ : Aside0 (w59.heap[gb138]? = some (.cells vA0 25 (0, 0))) := ⟨h2_⟩
                  have n3_ : Aside0 (w59.heap[gb139]? = some (.cells vA1 25 (0, 0))) := ⟨h3_⟩
                  have n4_ : Aside0 (Below w.heap.size w w59) := ⟨h4_⟩
                  clear BK138
                  clear BK139
                  clear HB
                  clear h0_ h1_ h2_ h3_ h4_
                  have HO145 := n0_
                  have HO148 := n1_
                  have BK138 := n2_
                  have BK139 := n3_
                  have HB := n4_
                  clear n0_ n1_ n2_ n3_ n4_
                  have hHeld : w59.cell? ⟨gb138, 0, none⟩ = some (.int .i64 4) ∧ w59.cell? ⟨gb138, 1, none⟩ = some (.int .i64 0) ∧ w59.cell? ⟨gb138, 2, none⟩ = some (.int .i64 0) ∧ w59.cell? ⟨gb138, 3, none⟩ = some (.int .u32 0) ∧ w59.cell? ⟨gb138, 4, none⟩ = some (.int .u32 0) ∧ w59.cell? ⟨gb138, 5, none⟩ = some (.int .u32 7) ∧ w59.cell? ⟨gb138, 6, none⟩ = some (.int .u32 0) ∧ w59.cell? ⟨gb138, 7, none⟩ = some (.int .u32 0) ∧ w59.cell? ⟨gb138, 8, none⟩ = some (.int .u32 0) ∧ w59.cell? ⟨gb138, 9, none⟩ = some (.int .u32 1) ∧ w59.cell? ⟨gb139, 0, none⟩ = some (.int .i64 3) ∧ w59.cell? ⟨gb139, 1, none⟩ = some (.int .i64 0) ∧ w59.cell? ⟨gb139, 2, none⟩ = some (.int .i64 0) ∧ w59.cell? ⟨gb139, 3, none⟩ = some (.int .u32 0) ∧ w59.cell? ⟨gb139, 4, none⟩ = some (.int .u32 0) ∧ w59.cell? ⟨gb139, 5, none⟩ = some (.int .u32 7) ∧ w59.cell? ⟨gb139, 6, none⟩ = some (.int .u32 0) ∧ w59.cell? ⟨gb139, 7, none⟩ = some (.int .u32 0) ∧ w59.cell? ⟨gb139, 8, none⟩ = some (.int .u32 0) ∧ w59.cell? ⟨gb139, 9, none⟩ = some (.int .u32 2) := hS_
                  refine norm_ (a' := ?_) ?_ ?_
                  rotate_left
                  ·
                   simp only [putAll, Act.put, List.setIfInBounds_toArray, List.set_cons_zero, List.set_cons_succ]
                   rfl
                  refine two_ (i := 25) (j := 28) (Ni := some 30) (Nj := some 33) #[Y,Y,Y,Y,Y,Y,Y,Y,Y,Y,Y,Y,Y,Y,Y,Y,Y,Y,Y,Y,Y,Y,Y,Y,Y,Y,Y,Y,Z,Z,Z,Z,Z,Z,Z,Z,Z,Z,Z,Z,Z,Z,Z,Z,Z,Z,Z] #[Y,Y,Y,Y,Y,Y,Y,Y,Y,Y,Y,Y,Y,Y,Y,Y,Y,Y,Y,Y,Y,Y,Y,Y,Y,Z,Y,Y,Y,Z,Z,Z,Z,Z,Z,Z,Z,Z,Z,Z,Z,Z,Z,Z,Z,Z,Z] rfl rfl rfl rfl (two_of HT_.out (by kernel_rfl)) (by decide) (by decide) (fun K hK => ?_) (fun K hK => ?_)
                  ·
                   skip
                   refine Kd.R_lit_step k25 _ 25 ?hg (N := 30) ?hd (xs := ([(⟨4, 0, 0, 0, 0, 7, 0, 0, 0, 1⟩ : S25)] : List (S25))) (inner := [.int .i64 4, .int .i64 0, .int .i64 0, .int .u32 0, .int .u32 0, .int .u32 7, .int .u32 0, .int .u32 0, .int .u32 0, .int .u32 1]) (ok := fun _ => True) (okp := fun _ => True) ?hr ?hp (fun _ hk => hk) trivial (Below.refl _ _) (Nat.le_refl _) (by simp) ?_; (case hd => rfl); (case hg => rfl); (case hr => first | (go_simp; done) | (go_simp; rfl)); (case hp => exact (Reps.c10 (show Kd.M k25 _ _ _ (⟨4, 0, 0, 0, 0, 7, 0, 0, 0, 1⟩ : S25) [.int .i64 4, .int .i64 0, .int .i64 0, .int .u32 0, .int .u32 0, .int .u32 7, .int .u32 0, .int .u32 0, .int .u32 0, .int .u32 1] from (k25_mkM _ _ _ (⟨4, 0, 0, 0, 0, 7, 0, 0, 0, 1⟩ : S25) )) (Reps.none _ _)))
                   intro v151 w60 ho61 hb hg_ hnew_
                   clear hg_ hnew_
                   (first | rw [← Ny150.out] at ho61 | (simp only [Int.reduceToNat] at ho61; rw [← Ny150.out] at ho61))
                   have n0_ := Aside0.mk (Kd.R_elder' (by (with_reducible repeat (first | apply Kd.R_alloc | apply Kd.R_drewN | apply Kd.R_drew)); exact HO145.out) (Kd.R_base ho61) hb)
                   have n1_ := Aside0.mk (Kd.R_elder' (by (with_reducible repeat (first | apply Kd.R_alloc | apply Kd.R_drewN | apply Kd.R_drew)); exact HO148.out) (Kd.R_base ho61) hb)
                   have n2_ := Aside0.mk (Kd.R_lower (Kd.R_newB (Kd.R_newB (Kd.R_new' (Kd.R_new' ho61 (Kd.R_lt (by (with_reducible repeat (first | apply Kd.R_alloc | apply Kd.R_drewN | apply Kd.R_drew)); exact HO145.out))) (Kd.R_lt (by (with_reducible repeat (first | apply Kd.R_alloc | apply Kd.R_drewN | apply Kd.R_drew)); exact HO148.out))) (g := gb138) (o := .cells vA0 25 (0, 0)) (by (with_reducible repeat (first | refine blk_drewN ?_ _ | refine blk_drew ?_ | refine blk_alloc ?_ _)); exact BK138.out)) (g := gb139) (o := .cells vA1 25 (0, 0)) (by (with_reducible repeat (first | refine blk_drewN ?_ _ | refine blk_drew ?_ | refine blk_alloc ?_ _)); exact BK139.out)) (below_size (by repeat (first | (with_reducible first | exact HB.out | apply below_alloc | apply pw_below_drewN | apply below_drew1 | refine below_set ?_ GE138.out | refine below_set ?_ GE139.out) | exact HB.out))))
                   have n3_ := Aside0.mk (blk_below (g := gb138) (o := .cells vA0 25 (0, 0)) (by (with_reducible repeat (first | refine blk_drewN ?_ _ | refine blk_drew ?_ | refine blk_alloc ?_ _)); exact BK138.out) hb)
                   have n4_ := Aside0.mk (blk_below (g := gb139) (o := .cells vA1 25 (0, 0)) (by (with_reducible repeat (first | refine blk_drewN ?_ _ | refine blk_drew ?_ | refine blk_alloc ?_ _)); exact BK139.out) hb)
                   have n5_ := Aside0.mk (below_step (by repeat (first | (with_reducible first | exact HB.out | apply below_alloc | apply pw_below_drewN | apply below_drew1 | refine below_set ?_ GE138.out | refine below_set ?_ GE139.out) | exact HB.out)) hb)
                   clear HO145
                   clear HO148
                   clear BK138
                   clear BK139
                   clear HB
                   have HO145 := n0_
                   have HO148 := n1_
                   have HO152 := n2_
                   have BK138 := n3_
                   have BK139 := n4_
                   have HB := n5_
                   clear n0_ n1_ n2_ n3_ n4_ n5_
                   clear hb ho61
                   refine hK.out _ _ ⟨(blk_cell BK138.out 0).trans rfl, (blk_cell BK138.out 1).trans rfl, (blk_cell BK138.out 2).trans rfl, (blk_cell BK138.out 3).trans rfl, (blk_cell BK138.out 4).trans rfl, (blk_cell BK138.out 5).trans rfl, (blk_cell BK138.out 6).trans rfl, (blk_cell BK138.out 7).trans rfl, (blk_cell BK138.out 8).trans rfl, (blk_cell BK138.out 9).trans rfl, (blk_cell BK139.out 0).trans rfl, (blk_cell BK139.out 1).trans rfl, (blk_cell BK139.out 2).trans rfl, (blk_cell BK139.out 3).trans rfl, (blk_cell BK139.out 4).trans rfl, (blk_cell BK139.out 5).trans rfl, (blk_cell BK139.out 6).trans rfl, (blk_cell BK139.out 7).trans rfl, (blk_cell BK139.out 8).trans rfl, (blk_cell BK139.out 9).trans rfl⟩ (fun hHeld => ?_)
                   clear hK K
                   refine norm_ (a' := ?_) ?_ ?_
                   rotate_left
                   ·
                    show Act.put _ (some 30) _ = _
                    simp only [Act.put, List.setIfInBounds_toArray, List.set_cons_zero, List.set_cons_succ, i64_w, i32_w]
                    rfl
                   exact norm_ (by first | (simp only [putAll, Act.put, List.setIfInBounds_toArray, List.set_cons_zero, List.set_cons_succ]; done) | (simp only [putAll, Act.put, List.setIfInBounds_toArray, List.set_cons_zero, List.set_cons_succ]; rfl)) (hJ17_19_20_25 (v144, v147, v151) _ ⟨hHeld, (by (with_reducible repeat (first | apply Kd.R_alloc | apply Kd.R_drewN | apply Kd.R_drew)); exact Kd.R_mono HO145.out (fun _ hk => ⟨hk.1.1, ⟨hk.2, ⟨hk.1.2.1, hk.1.2.2⟩⟩⟩)), (by (with_reducible repeat (first | apply Kd.R_alloc | apply Kd.R_drewN | apply Kd.R_drew)); exact Kd.R_mono HO148.out (fun _ hk => ⟨hk.1.1, ⟨hk.2, ⟨hk.1.2.1, hk.1.2.2⟩⟩⟩)), (by (with_reducible repeat (first | apply Kd.R_alloc | apply Kd.R_drewN | apply Kd.R_drew)); exact Kd.R_mono HO152.out (fun _ hk => ⟨hk.1.1.1.2, ⟨hk.1.1.2, ⟨hk.1.2, hk.2⟩⟩⟩)), (by (with_reducible repeat (first | refine blk_drewN ?_ _ | refine blk_drew ?_ | refine blk_alloc ?_ _)); exact BK138.out), (by (with_reducible repeat (first | refine blk_drewN ?_ _ | refine blk_drew ?_ | refine blk_alloc ?_ _)); exact BK139.out), (by repeat (first | (with_reducible first | exact HB.out | apply below_alloc | apply pw_below_drewN | apply below_drew1 | refine below_set ?_ GE138.out | refine below_set ?_ GE139.out) | exact HB.out))⟩)
                  ·
                   skip
                   refine Kd.R_lit_step k25 _ 25 ?hg (N := 33) ?hd (xs := ([(⟨3, 0, 0, 0, 0, 7, 0, 0, 0, 2⟩ : S25), (⟨3, 0, 0, 0, 0, 7, 0, 0, 0, 2⟩ : S25)] : List (S25))) (inner := [.int .i64 3, .int .i64 0, .int .i64 0, .int .u32 0, .int .u32 0, .int .u32 7, .int .u32 0, .int .u32 0, .int .u32 0, .int .u32 2, .int .i64 3, .int .i64 0, .int .i64 0, .int .u32 0, .int .u32 0, .int .u32 7, .int .u32 0, .int .u32 0, .int .u32 0, .int .u32 2]) (ok := fun _ => True) (okp := fun _ => True) ?hr ?hp (fun _ hk => hk) trivial (Below.refl _ _) (Nat.le_refl _) (by simp) ?_; (case hd => rfl); (case hg => rfl); (case hr => first | (go_simp; done) | (go_simp; rfl)); (case hp => exact (Reps.c10 (show Kd.M k25 _ _ _ (⟨3, 0, 0, 0, 0, 7, 0, 0, 0, 2⟩ : S25) [.int .i64 3, .int .i64 0, .int .i64 0, .int .u32 0, .int .u32 0, .int .u32 7, .int .u32 0, .int .u32 0, .int .u32 0, .int .u32 2] from (k25_mkM _ _ _ (⟨3, 0, 0, 0, 0, 7, 0, 0, 0, 2⟩ : S25) )) (Reps.c10 (show Kd.M k25 _ _ _ (⟨3, 0, 0, 0, 0, 7, 0, 0, 0, 2⟩ : S25) [.int .i64 3, .int .i64 0, .int .i64 0, .int .u32 0, .int .u32 0, .int .u32 7, .int .u32 0, .int .u32 0, .int .u32 0, .int .u32 2] from (k25_mkM _ _ _ (⟨3, 0, 0, 0, 0, 7, 0, 0, 0, 2⟩ : S25) )) (Reps.none _ _))))
                   intro v154 w60 ho61 hb hg_ hnew_
                   clear hg_ hnew_
                   (first | rw [← Ny153.out] at ho61 | (simp only [Int.reduceToNat] at ho61; rw [← Ny153.out] at ho61))
                   have n0_ := Aside0.mk (Kd.R_elder' (by (with_reducible repeat (first | apply Kd.R_alloc | apply Kd.R_drewN | apply Kd.R_drew)); exact HO145.out) (Kd.R_base ho61) hb)
                   have n1_ := Aside0.mk (Kd.R_elder' (by (with_reducible repeat (first | apply Kd.R_alloc | apply Kd.R_drewN | apply Kd.R_drew)); exact HO148.out) (Kd.R_base ho61) hb)
                   have n2_ := Aside0.mk (Kd.R_lower (Kd.R_newB (Kd.R_newB (Kd.R_new' (Kd.R_new' ho61 (Kd.R_lt (by (with_reducible repeat (first | apply Kd.R_alloc | apply Kd.R_drewN | apply Kd.R_drew)); exact HO145.out))) (Kd.R_lt (by (with_reducible repeat (first | apply Kd.R_alloc | apply Kd.R_drewN | apply Kd.R_drew)); exact HO148.out))) (g := gb138) (o := .cells vA0 25 (0, 0)) (by (with_reducible repeat (first | refine blk_drewN ?_ _ | refine blk_drew ?_ | refine blk_alloc ?_ _)); exact BK138.out)) (g := gb139) (o := .cells vA1 25 (0, 0)) (by (with_reducible repeat (first | refine blk_drewN ?_ _ | refine blk_drew ?_ | refine blk_alloc ?_ _)); exact BK139.out)) (below_size (by repeat (first | (with_reducible first | exact HB.out | apply below_alloc | apply pw_below_drewN | apply below_drew1 | refine below_set ?_ GE138.out | refine below_set ?_ GE139.out) | exact HB.out))))
                   have n3_ := Aside0.mk (blk_below (g := gb138) (o := .cells vA0 25 (0, 0)) (by (with_reducible repeat (first | refine blk_drewN ?_ _ | refine blk_drew ?_ | refine blk_alloc ?_ _)); exact BK138.out) hb)
                   have n4_ := Aside0.mk (blk_below (g := gb139) (o := .cells vA1 25 (0, 0)) (by (with_reducible repeat (first | refine blk_drewN ?_ _ | refine blk_drew ?_ | refine blk_alloc ?_ _)); exact BK139.out) hb)
                   have n5_ := Aside0.mk (below_step (by repeat (first | (with_reducible first | exact HB.out | apply below_alloc | apply pw_below_drewN | apply below_drew1 | refine below_set ?_ GE138.out | refine below_set ?_ GE139.out) | exact HB.out)) hb)
                   clear HO145
                   clear HO148
                   clear BK138
                   clear BK139
                   clear HB
                   have HO145 := n0_
                   have HO148 := n1_
                   have HO155 := n2_
                   have BK138 := n3_
                   have BK139 := n4_
                   have HB := n5_
                   clear n0_ n1_ n2_ n3_ n4_ n5_
                   clear hb ho61
                   refine hK.out _ _ ⟨(blk_cell BK138.out 0).trans rfl, (blk_cell BK138.out 1).trans rfl, (blk_cell BK138.out 2).trans rfl, (blk_cell BK138.out 3).trans rfl, (blk_cell BK138.out 4).trans rfl, (blk_cell BK138.out 5).trans rfl, (blk_cell BK138.out 6).trans rfl, (blk_cell BK138.out 7).trans rfl, (blk_cell BK138.out 8).trans rfl, (blk_cell BK138.out 9).trans rfl, (blk_cell BK139.out 0).trans rfl, (blk_cell BK139.out 1).trans rfl, (blk_cell BK139.out 2).trans rfl, (blk_cell BK139.out 3).trans rfl, (blk_cell BK139.out 4).trans rfl, (blk_cell BK139.out 5).trans rfl, (blk_cell BK139.out 6).trans rfl, (blk_cell BK139.out 7).trans rfl, (blk_cell BK139.out 8).trans rfl, (blk_cell BK139.out 9).trans rfl⟩ (fun hHeld => ?_)
                   clear hK K
                   refine norm_ (a' := ?_) ?_ ?_
                   rotate_left
                   ·
                    show Act.put _ (some 33) _ = _
                    simp only [Act.put, List.setIfInBounds_toArray, List.set_cons_zero, List.set_cons_succ, i64_w, i32_w]
                    rfl
                   exact norm_ (by first | (simp only [putAll, Act.put, List.setIfInBounds_toArray, List.set_cons_zero, List.set_cons_succ]; done) | (simp only [putAll, Act.put, List.setIfInBounds_toArray, List.set_cons_zero, List.set_cons_succ]; rfl)) (hJ17_19_20_28 (v144, v147, v154) _ ⟨hHeld, (by (with_reducible repeat (first | apply Kd.R_alloc | apply Kd.R_drewN | apply Kd.R_drew)); exact Kd.R_mono HO145.out (fun _ hk => ⟨hk.1.1, ⟨hk.2, ⟨hk.1.2.1, hk.1.2.2⟩⟩⟩)), (by (with_reducible repeat (first | apply Kd.R_alloc | apply Kd.R_drewN | apply Kd.R_drew)); exact Kd.R_mono HO148.out (fun _ hk => ⟨hk.1.1, ⟨hk.2, ⟨hk.1.2.1, hk.1.2.2⟩⟩⟩)), (by (with_reducible repeat (first | apply Kd.R_alloc | apply Kd.R_drewN | apply Kd.R_drew)); exact Kd.R_mono HO155.out (fun _ hk => ⟨hk.1.1.1.2, ⟨hk.1.1.2, ⟨hk.1.2, hk.2⟩⟩⟩)), (by (with_reducible repeat (first | refine blk_drewN ?_ _ | refine blk_drew ?_ | refine blk_alloc ?_ _)); exact BK138.out), (by (with_reducible repeat (first | refine blk_drewN ?_ _ | refine blk_drew ?_ | refine blk_alloc ?_ _)); exact BK139.out), (by repeat (first | (with_reducible first | exact HB.out | apply below_alloc | apply pw_below_drewN | apply below_drew1 | refine below_set ?_ GE138.out | refine below_set ?_ GE139.out) | exact HB.out))⟩)
                ·
                 skip
                 rintro ⟨v144, v147, v154⟩ w61 ⟨hS_, h0_, h1_, h2_, h3_, h4_, h5_⟩
                 have n0_ : Aside0 (Kd.R k25 25 w61 w.heap.size (fun k_ => some k_ ≠ (v147 : Value).ownBlock ∧ some k_ ≠ (v154 : Value).ownBlock ∧ k_ ≠ gb138 ∧ k_ ≠ gb139) v144 y143) := ⟨h0_⟩
                 have n1_ : Aside0 (Kd.R k25 25 w61 w.heap.size (fun k_ => some k_ ≠ (v144 : Value).ownBlock ∧ some k_ ≠ (v154 : Value).ownBlock ∧ k_ ≠ gb138 ∧ k_ ≠ gb139) v147 y146) := ⟨h1_⟩
                 have n2_ : Aside0 (Kd.R k25 25 w61 w.heap.size (fun k_ => some k_ ≠ (v144 : Value).ownBlock ∧ some k_ ≠ (v147 : Value).ownBlock ∧ k_ ≠ gb138 ∧ k_ ≠ gb139) v154 y153) := ⟨h2_⟩
                 have n3_ : Aside0 (w61.heap[gb138]? = some (.cells vA0 25 (0, 0))) := ⟨h3_⟩
                 have n4_ : Aside0 (w61.heap[gb139]? = some (.cells vA1 25 (0, 0))) := ⟨h4_⟩
                 have n5_ : Aside0 (Below w.heap.size w w61) := ⟨h5_⟩
                 clear BK138
                 clear BK139
                 clear HB
                 clear h0_ h1_ h2_ h3_ h4_ h5_
                 have HO145 := n0_
                 have HO148 := n1_
                 have HO155 := n2_
                 have BK138 := n3_
                 have BK139 := n4_
                 have HB := n5_
                 clear n0_ n1_ n2_ n3_ n4_ n5_
                 have hHeld : w61.cell? ⟨gb138, 0, none⟩ = some (.int .i64 4) ∧ w61.cell? ⟨gb138, 1, none⟩ = some (.int .i64 0) ∧ w61.cell? ⟨gb138, 2, none⟩ = some (.int .i64 0) ∧ w61.cell? ⟨gb138, 3, none⟩ = some (.int .u32 0) ∧ w61.cell? ⟨gb138, 4, none⟩ = some (.int .u32 0) ∧ w61.cell? ⟨gb138, 5, none⟩ = some (.int .u32 7) ∧ w61.cell? ⟨gb138, 6, none⟩ = some (.int .u32 0) ∧ w61.cell? ⟨gb138, 7, none⟩ = some (.int .u32 0) ∧ w61.cell? ⟨gb138, 8, none⟩ = some (.int .u32 0) ∧ w61.cell? ⟨gb138, 9, none⟩ = some (.int .u32 1) ∧ w61.cell? ⟨gb139, 0, none⟩ = some (.int .i64 3) ∧ w61.cell? ⟨gb139, 1, none⟩ = some (.int .i64 0) ∧ w61.cell? ⟨gb139, 2, none⟩ = some (.int .i64 0) ∧ w61.cell? ⟨gb139, 3, none⟩ = some (.int .u32 0) ∧ w61.cell? ⟨gb139, 4, none⟩ = some (.int .u32 0) ∧ w61.cell? ⟨gb139, 5, none⟩ = some (.int .u32 7) ∧ w61.cell? ⟨gb139, 6, none⟩ = some (.int .u32 0) ∧ w61.cell? ⟨gb139, 7, none⟩ = some (.int .u32 0) ∧ w61.cell? ⟨gb139, 8, none⟩ = some (.int .u32 0) ∧ w61.cell? ⟨gb139, 9, none⟩ = some (.int .u32 2) := hS_
                 refine norm_ (a' := ?_) ?_ ?_
                 rotate_left
                 ·
                  simp only [putAll, Act.put, List.setIfInBounds_toArray, List.set_cons_zero, List.set_cons_succ]
                  rfl
                 refine one_ (i := 25) (N := some 30) #[Y,Y,Y,Y,Y,Y,Y,Y,Y,Y,Y,Y,Y,Y,Y,Y,Y,Y,Y,Y,Y,Y,Y,Y,Y,Y,Y,Y,Y,Z,Z,Z,Z,Z,Z,Z,Z,Z,Z,Z,Z,Z,Z,Z,Z,Z,Z] rfl rfl (one_of HT_.out (by kernel_rfl)) (by decide) (fun K hK => ?_)
                 refine Kd.R_lit_step k25 _ 25 ?hg (N := 30) ?hd (xs := ([(⟨4, 0, 0, 0, 0, 7, 0, 0, 0, 1⟩ : S25)] : List (S25))) (inner := [.int .i64 4, .int .i64 0, .int .i64 0, .int .u32 0, .int .u32 0, .int .u32 7, .int .u32 0, .int .u32 0, .int .u32 0, .int .u32 1]) (ok := fun _ => True) (okp := fun _ => True) ?hr ?hp (fun _ hk => hk) trivial (Below.refl _ _) (Nat.le_refl _) (by simp) ?_; (case hd => rfl); (case hg => rfl); (case hr => first | (go_simp; done) | (go_simp; rfl)); (case hp => exact (Reps.c10 (show Kd.M k25 _ _ _ (⟨4, 0, 0, 0, 0, 7, 0, 0, 0, 1⟩ : S25) [.int .i64 4, .int .i64 0, .int .i64 0, .int .u32 0, .int .u32 0, .int .u32 7, .int .u32 0, .int .u32 0, .int .u32 0, .int .u32 1] from (k25_mkM _ _ _ (⟨4, 0, 0, 0, 0, 7, 0, 0, 0, 1⟩ : S25) )) (Reps.none _ _)))
                 intro v151 w62 ho63 hb hg_ hnew_
                 clear hg_ hnew_
                 (first | rw [← Ny150.out] at ho63 | (simp only [Int.reduceToNat] at ho63; rw [← Ny150.out] at ho63))
                 have n0_ := Aside0.mk (Kd.R_elder' (by (with_reducible repeat (first | apply Kd.R_alloc | apply Kd.R_drewN | apply Kd.R_drew)); exact HO145.out) (Kd.R_base ho63) hb)
                 have n1_ := Aside0.mk (Kd.R_elder' (by (with_reducible repeat (first | apply Kd.R_alloc | apply Kd.R_drewN | apply Kd.R_drew)); exact HO148.out) (Kd.R_base ho63) hb)
                 have n2_ := Aside0.mk (Kd.R_elder' (by (with_reducible repeat (first | apply Kd.R_alloc | apply Kd.R_drewN | apply Kd.R_drew)); exact HO155.out) (Kd.R_base ho63) hb)
                 have n3_ := Aside0.mk (Kd.R_lower (Kd.R_newB (Kd.R_newB (Kd.R_new' (Kd.R_new' (Kd.R_new' ho63 (Kd.R_lt (by (with_reducible repeat (first | apply Kd.R_alloc | apply Kd.R_drewN | apply Kd.R_drew)); exact HO145.out))) (Kd.R_lt (by (with_reducible repeat (first | apply Kd.R_alloc | apply Kd.R_drewN | apply Kd.R_drew)); exact HO148.out))) (Kd.R_lt (by (with_reducible repeat (first | apply Kd.R_alloc | apply Kd.R_drewN | apply Kd.R_drew)); exact HO155.out))) (g := gb138) (o := .cells vA0 25 (0, 0)) (by (with_reducible repeat (first | refine blk_drewN ?_ _ | refine blk_drew ?_ | refine blk_alloc ?_ _)); exact BK138.out)) (g := gb139) (o := .cells vA1 25 (0, 0)) (by (with_reducible repeat (first | refine blk_drewN ?_ _ | refine blk_drew ?_ | refine blk_alloc ?_ _)); exact BK139.out)) (below_size (by repeat (first | (with_reducible first | exact HB.out | apply below_alloc | apply pw_below_drewN | apply below_drew1 | refine below_set ?_ GE138.out | refine below_set ?_ GE139.out) | exact HB.out))))
                 have n4_ := Aside0.mk (blk_below (g := gb138) (o := .cells vA0 25 (0, 0)) (by (with_reducible repeat (first | refine blk_drewN ?_ _ | refine blk_drew ?_ | refine blk_alloc ?_ _)); exact BK138.out) hb)
                 have n5_ := Aside0.mk (blk_below (g := gb139) (o := .cells vA1 25 (0, 0)) (by (with_reducible repeat (first | refine blk_drewN ?_ _ | refine blk_drew ?_ | refine blk_alloc ?_ _)); exact BK139.out) hb)
                 have n6_ := Aside0.mk (below_step (by repeat (first | (with_reducible first | exact HB.out | apply below_alloc | apply pw_below_drewN | apply below_drew1 | refine below_set ?_ GE138.out | refine below_set ?_ GE139.out) | exact HB.out)) hb)
                 clear HO145
                 clear HO148
                 clear HO155
                 clear BK138
                 clear BK139
                 clear HB
                 have HO145 := n0_
                 have HO148 := n1_
                 have HO155 := n2_
                 have HO152 := n3_
                 have BK138 := n4_
                 have BK139 := n5_
                 have HB := n6_
                 clear n0_ n1_ n2_ n3_ n4_ n5_ n6_
                 clear hb ho63
                 refine hK.out _ _ ⟨(blk_cell BK138.out 0).trans rfl, (blk_cell BK138.out 1).trans rfl, (blk_cell BK138.out 2).trans rfl, (blk_cell BK138.out 3).trans rfl, (blk_cell BK138.out 4).trans rfl, (blk_cell BK138.out 5).trans rfl, (blk_cell BK138.out 6).trans rfl, (blk_cell BK138.out 7).trans rfl, (blk_cell BK138.out 8).trans rfl, (blk_cell BK138.out 9).trans rfl, (blk_cell BK139.out 0).trans rfl, (blk_cell BK139.out 1).trans rfl, (blk_cell BK139.out 2).trans rfl, (blk_cell BK139.out 3).trans rfl, (blk_cell BK139.out 4).trans rfl, (blk_cell BK139.out 5).trans rfl, (blk_cell BK139.out 6).trans rfl, (blk_cell BK139.out 7).trans rfl, (blk_cell BK139.out 8).trans rfl, (blk_cell BK139.out 9).trans rfl⟩ (fun hHeld => ?_)
                 clear hK K
                 refine norm_ (a' := ?_) ?_ ?_
                 rotate_left
                 ·
                  show Act.put _ (some 30) _ = _
                  simp only [Act.put, List.setIfInBounds_toArray, List.set_cons_zero, List.set_cons_succ, i64_w, i32_w]
                  rfl
                 exact norm_ (by first | (simp only [putAll, Act.put, List.setIfInBounds_toArray, List.set_cons_zero, List.set_cons_succ]; done) | (simp only [putAll, Act.put, List.setIfInBounds_toArray, List.set_cons_zero, List.set_cons_succ]; rfl)) (hJ17_19_20_25_28 (v144, v147, v151, v154) _ ⟨hHeld, (by (with_reducible repeat (first | apply Kd.R_alloc | apply Kd.R_drewN | apply Kd.R_drew)); exact Kd.R_mono HO145.out (fun _ hk => ⟨hk.1.1, ⟨hk.2, ⟨hk.1.2.1, ⟨hk.1.2.2.1, hk.1.2.2.2⟩⟩⟩⟩)), (by (with_reducible repeat (first | apply Kd.R_alloc | apply Kd.R_drewN | apply Kd.R_drew)); exact Kd.R_mono HO148.out (fun _ hk => ⟨hk.1.1, ⟨hk.2, ⟨hk.1.2.1, ⟨hk.1.2.2.1, hk.1.2.2.2⟩⟩⟩⟩)), (by (with_reducible repeat (first | apply Kd.R_alloc | apply Kd.R_drewN | apply Kd.R_drew)); exact Kd.R_mono HO152.out (fun _ hk => ⟨hk.1.1.1.1.2, ⟨hk.1.1.1.2, ⟨hk.1.1.2, ⟨hk.1.2, hk.2⟩⟩⟩⟩)), (by (with_reducible repeat (first | apply Kd.R_alloc | apply Kd.R_drewN | apply Kd.R_drew)); exact Kd.R_mono HO155.out (fun _ hk => ⟨hk.1.1, ⟨hk.1.2.1, ⟨hk.2, ⟨hk.1.2.2.1, hk.1.2.2.2⟩⟩⟩⟩)), (by (with_reducible repeat (first | refine blk_drewN ?_ _ | refine blk_drew ?_ | refine blk_alloc ?_ _)); exact BK138.out), (by (with_reducible repeat (first | refine blk_drewN ?_ _ | refine blk_drew ?_ | refine blk_alloc ?_ _)); exact BK139.out), (by repeat (first | (with_reducible first | exact HB.out | apply below_alloc | apply pw_below_drewN | apply below_drew1 | refine below_set ?_ GE138.out | refine below_set ?_ GE139.out) | exact HB.out))⟩)
               ·
                skip
                rintro ⟨v144, v147, v151⟩ w61 ⟨hS_, h0_, h1_, h2_, h3_, h4_, h5_⟩
                have n0_ : Aside0 (Kd.R k25 25 w61 w.heap.size (fun k_ => some k_ ≠ (v147 : Value).ownBlock ∧ some k_ ≠ (v151 : Value).ownBlock ∧ k_ ≠ gb138 ∧ k_ ≠ gb139) v144 y143) := ⟨h0_⟩
                have n1_ : Aside0 (Kd.R k25 25 w61 w.heap.size (fun k_ => some k_ ≠ (v144 : Value).ownBlock ∧ some k_ ≠ (v151 : Value).ownBlock ∧ k_ ≠ gb138 ∧ k_ ≠ gb139) v147 y146) := ⟨h1_⟩
                have n2_ : Aside0 (Kd.R k25 25 w61 w.heap.size (fun k_ => some k_ ≠ (v144 : Value).ownBlock ∧ some k_ ≠ (v147 : Value).ownBlock ∧ k_ ≠ gb138 ∧ k_ ≠ gb139) v151 y150) := ⟨h2_⟩
                have n3_ : Aside0 (w61.heap[gb138]? = some (.cells vA0 25 (0, 0))) := ⟨h3_⟩
                have n4_ : Aside0 (w61.heap[gb139]? = some (.cells vA1 25 (0, 0))) := ⟨h4_⟩
                have n5_ : Aside0 (Below w.heap.size w w61) := ⟨h5_⟩
                clear BK138
                clear BK139
                clear HB
                clear h0_ h1_ h2_ h3_ h4_ h5_
                have HO145 := n0_
                have HO148 := n1_
                have HO152 := n2_
                have BK138 := n3_
                have BK139 := n4_
                have HB := n5_
                clear n0_ n1_ n2_ n3_ n4_ n5_
                have hHeld : w61.cell? ⟨gb138, 0, none⟩ = some (.int .i64 4) ∧ w61.cell? ⟨gb138, 1, none⟩ = some (.int .i64 0) ∧ w61.cell? ⟨gb138, 2, none⟩ = some (.int .i64 0) ∧ w61.cell? ⟨gb138, 3, none⟩ = some (.int .u32 0) ∧ w61.cell? ⟨gb138, 4, none⟩ = some (.int .u32 0) ∧ w61.cell? ⟨gb138, 5, none⟩ = some (.int .u32 7) ∧ w61.cell? ⟨gb138, 6, none⟩ = some (.int .u32 0) ∧ w61.cell? ⟨gb138, 7, none⟩ = some (.int .u32 0) ∧ w61.cell? ⟨gb138, 8, none⟩ = some (.int .u32 0) ∧ w61.cell? ⟨gb138, 9, none⟩ = some (.int .u32 1) ∧ w61.cell? ⟨gb139, 0, none⟩ = some (.int .i64 3) ∧ w61.cell? ⟨gb139, 1, none⟩ = some (.int .i64 0) ∧ w61.cell? ⟨gb139, 2, none⟩ = some (.int .i64 0) ∧ w61.cell? ⟨gb139, 3, none⟩ = some (.int .u32 0) ∧ w61.cell? ⟨gb139, 4, none⟩ = some (.int .u32 0) ∧ w61.cell? ⟨gb139, 5, none⟩ = some (.int .u32 7) ∧ w61.cell? ⟨gb139, 6, none⟩ = some (.int .u32 0) ∧ w61.cell? ⟨gb139, 7, none⟩ = some (.int .u32 0) ∧ w61.cell? ⟨gb139, 8, none⟩ = some (.int .u32 0) ∧ w61.cell? ⟨gb139, 9, none⟩ = some (.int .u32 2) := hS_
                refine norm_ (a' := ?_) ?_ ?_
                rotate_left
                ·
                 simp only [putAll, Act.put, List.setIfInBounds_toArray, List.set_cons_zero, List.set_cons_succ]
                 rfl
                refine one_ (i := 28) (N := some 33) #[Y,Y,Y,Y,Y,Y,Y,Y,Y,Y,Y,Y,Y,Y,Y,Y,Y,Y,Y,Y,Y,Y,Y,Y,Y,Y,Y,Y,Y,Z,Z,Z,Z,Z,Z,Z,Z,Z,Z,Z,Z,Z,Z,Z,Z,Z,Z] rfl rfl (one_of HT_.out (by kernel_rfl)) (by decide) (fun K hK => ?_)
                refine Kd.R_lit_step k25 _ 25 ?hg (N := 33) ?hd (xs := ([(⟨3, 0, 0, 0, 0, 7, 0, 0, 0, 2⟩ : S25), (⟨3, 0, 0, 0, 0, 7, 0, 0, 0, 2⟩ : S25)] : List (S25))) (inner := [.int .i64 3, .int .i64 0, .int .i64 0, .int .u32 0, .int .u32 0, .int .u32 7, .int .u32 0, .int .u32 0, .int .u32 0, .int .u32 2, .int .i64 3, .int .i64 0, .int .i64 0, .int .u32 0, .int .u32 0, .int .u32 7, .int .u32 0, .int .u32 0, .int .u32 0, .int .u32 2]) (ok := fun _ => True) (okp := fun _ => True) ?hr ?hp (fun _ hk => hk) trivial (Below.refl _ _) (Nat.le_refl _) (by simp) ?_; (case hd => rfl); (case hg => rfl); (case hr => first | (go_simp; done) | (go_simp; rfl)); (case hp => exact (Reps.c10 (show Kd.M k25 _ _ _ (⟨3, 0, 0, 0, 0, 7, 0, 0, 0, 2⟩ : S25) [.int .i64 3, .int .i64 0, .int .i64 0, .int .u32 0, .int .u32 0, .int .u32 7, .int .u32 0, .int .u32 0, .int .u32 0, .int .u32 2] from (k25_mkM _ _ _ (⟨3, 0, 0, 0, 0, 7, 0, 0, 0, 2⟩ : S25) )) (Reps.c10 (show Kd.M k25 _ _ _ (⟨3, 0, 0, 0, 0, 7, 0, 0, 0, 2⟩ : S25) [.int .i64 3, .int .i64 0, .int .i64 0, .int .u32 0, .int .u32 0, .int .u32 7, .int .u32 0, .int .u32 0, .int .u32 0, .int .u32 2] from (k25_mkM _ _ _ (⟨3, 0, 0, 0, 0, 7, 0, 0, 0, 2⟩ : S25) )) (Reps.none _ _))))
                intro v154 w62 ho63 hb hg_ hnew_
                clear hg_ hnew_
                (first | rw [← Ny153.out] at ho63 | (simp only [Int.reduceToNat] at ho63; rw [← Ny153.out] at ho63))
                have n0_ := Aside0.mk (Kd.R_elder' (by (with_reducible repeat (first | apply Kd.R_alloc | apply Kd.R_drewN | apply Kd.R_drew)); exact HO145.out) (Kd.R_base ho63) hb)
                have n1_ := Aside0.mk (Kd.R_elder' (by (with_reducible repeat (first | apply Kd.R_alloc | apply Kd.R_drewN | apply Kd.R_drew)); exact HO148.out) (Kd.R_base ho63) hb)
                have n2_ := Aside0.mk (Kd.R_elder' (by (with_reducible repeat (first | apply Kd.R_alloc | apply Kd.R_drewN | apply Kd.R_drew)); exact HO152.out) (Kd.R_base ho63) hb)
                have n3_ := Aside0.mk (Kd.R_lower (Kd.R_newB (Kd.R_newB (Kd.R_new' (Kd.R_new' (Kd.R_new' ho63 (Kd.R_lt (by (with_reducible repeat (first | apply Kd.R_alloc | apply Kd.R_drewN | apply Kd.R_drew)); exact HO145.out))) (Kd.R_lt (by (with_reducible repeat (first | apply Kd.R_alloc | apply Kd.R_drewN | apply Kd.R_drew)); exact HO148.out))) (Kd.R_lt (by (with_reducible repeat (first | apply Kd.R_alloc | apply Kd.R_drewN | apply Kd.R_drew)); exact HO152.out))) (g := gb138) (o := .cells vA0 25 (0, 0)) (by (with_reducible repeat (first | refine blk_drewN ?_ _ | refine blk_drew ?_ | refine blk_alloc ?_ _)); exact BK138.out)) (g := gb139) (o := .cells vA1 25 (0, 0)) (by (with_reducible repeat (first | refine blk_drewN ?_ _ | refine blk_drew ?_ | refine blk_alloc ?_ _)); exact BK139.out)) (below_size (by repeat (first | (with_reducible first | exact HB.out | apply below_alloc | apply pw_below_drewN | apply below_drew1 | refine below_set ?_ GE138.out | refine below_set ?_ GE139.out) | exact HB.out))))
                have n4_ := Aside0.mk (blk_below (g := gb138) (o := .cells vA0 25 (0, 0)) (by (with_reducible repeat (first | refine blk_drewN ?_ _ | refine blk_drew ?_ | refine blk_alloc ?_ _)); exact BK138.out) hb)
                have n5_ := Aside0.mk (blk_below (g := gb139) (o := .cells vA1 25 (0, 0)) (by (with_reducible repeat (first | refine blk_drewN ?_ _ | refine blk_drew ?_ | refine blk_alloc ?_ _)); exact BK139.out) hb)
                have n6_ := Aside0.mk (below_step (by repeat (first | (with_reducible first | exact HB.out | apply below_alloc | apply pw_below_drewN | apply below_drew1 | refine below_set ?_ GE138.out | refine below_set ?_ GE139.out) | exact HB.out)) hb)
                clear HO145
                clear HO148
                clear HO152
                clear BK138
                clear BK139
                clear HB
                have HO145 := n0_
                have HO148 := n1_
                have HO152 := n2_
                have HO155 := n3_
                have BK138 := n4_
                have BK139 := n5_
                have HB := n6_
                clear n0_ n1_ n2_ n3_ n4_ n5_ n6_
                clear hb ho63
                refine hK.out _ _ ⟨(blk_cell BK138.out 0).trans rfl, (blk_cell BK138.out 1).trans rfl, (blk_cell BK138.out 2).trans rfl, (blk_cell BK138.out 3).trans rfl, (blk_cell BK138.out 4).trans rfl, (blk_cell BK138.out 5).trans rfl, (blk_cell BK138.out 6).trans rfl, (blk_cell BK138.out 7).trans rfl, (blk_cell BK138.out 8).trans rfl, (blk_cell BK138.out 9).trans rfl, (blk_cell BK139.out 0).trans rfl, (blk_cell BK139.out 1).trans rfl, (blk_cell BK139.out 2).trans rfl, (blk_cell BK139.out 3).trans rfl, (blk_cell BK139.out 4).trans rfl, (blk_cell BK139.out 5).trans rfl, (blk_cell BK139.out 6).trans rfl, (blk_cell BK139.out 7).trans rfl, (blk_cell BK139.out 8).trans rfl, (blk_cell BK139.out 9).trans rfl⟩ (fun hHeld => ?_)
                clear hK K
                refine norm_ (a' := ?_) ?_ ?_
                rotate_left
                ·
                 show Act.put _ (some 33) _ = _
                 simp only [Act.put, List.setIfInBounds_toArray, List.set_cons_zero, List.set_cons_succ, i64_w, i32_w]
                 rfl
                exact norm_ (by first | (simp only [putAll, Act.put, List.setIfInBounds_toArray, List.set_cons_zero, List.set_cons_succ]; done) | (simp only [putAll, Act.put, List.setIfInBounds_toArray, List.set_cons_zero, List.set_cons_succ]; rfl)) (hJ17_19_20_25_28 (v144, v147, v151, v154) _ ⟨hHeld, (by (with_reducible repeat (first | apply Kd.R_alloc | apply Kd.R_drewN | apply Kd.R_drew)); exact Kd.R_mono HO145.out (fun _ hk => ⟨hk.1.1, ⟨hk.1.2.1, ⟨hk.2, ⟨hk.1.2.2.1, hk.1.2.2.2⟩⟩⟩⟩)), (by (with_reducible repeat (first | apply Kd.R_alloc | apply Kd.R_drewN | apply Kd.R_drew)); exact Kd.R_mono HO148.out (fun _ hk => ⟨hk.1.1, ⟨hk.1.2.1, ⟨hk.2, ⟨hk.1.2.2.1, hk.1.2.2.2⟩⟩⟩⟩)), (by (with_reducible repeat (first | apply Kd.R_alloc | apply Kd.R_drewN | apply Kd.R_drew)); exact Kd.R_mono HO152.out (fun _ hk => ⟨hk.1.1, ⟨hk.1.2.1, ⟨hk.2, ⟨hk.1.2.2.1, hk.1.2.2.2⟩⟩⟩⟩)), (by (with_reducible repeat (first | apply Kd.R_alloc | apply Kd.R_drewN | apply Kd.R_drew)); exact Kd.R_mono HO155.out (fun _ hk => ⟨hk.1.1.1.1.2, ⟨hk.1.1.1.2, ⟨hk.1.1.2, ⟨hk.1.2, hk.2⟩⟩⟩⟩)), (by (with_reducible repeat (first | refine blk_drewN ?_ _ | refine blk_drew ?_ | refine blk_alloc ?_ _)); exact BK138.out), (by (with_reducible repeat (first | refine blk_drewN ?_ _ | refine blk_drew ?_ | refine blk_alloc ?_ _)); exact BK139.out), (by repeat (first | (with_reducible first | exact HB.out | apply below_alloc | apply pw_below_drewN | apply below_drew1 | refine below_set ?_ GE138.out | refine below_set ?_ GE139.out) | exact HB.out))⟩)
              ·
               skip
               rintro ⟨v144, v147, v151, v154⟩ w63 ⟨hS_, h0_, h1_, h2_, h3_, h4_, h5_, h6_⟩
               have n0_ : Aside0 (Kd.R k25 25 w63 w.heap.size (fun k_ => some k_ ≠ (v147 : Value).ownBlock ∧ some k_ ≠ (v151 : Value).ownBlock ∧ some k_ ≠ (v154 : Value).ownBlock ∧ k_ ≠ gb138 ∧ k_ ≠ gb139) v144 y143) := ⟨h0_⟩
               have n1_ : Aside0 (Kd.R k25 25 w63 w.heap.size (fun k_ => some k_ ≠ (v144 : Value).ownBlock ∧ some k_ ≠ (v151 : Value).ownBlock ∧ some k_ ≠ (v154 : Value).ownBlock ∧ k_ ≠ gb138 ∧ k_ ≠ gb139) v147 y146) := ⟨h1_⟩
               have n2_ : Aside0 (Kd.R k25 25 w63 w.heap.size (fun k_ => some k_ ≠ (v144 : Value).ownBlock ∧ some k_ ≠ (v147 : Value).ownBlock ∧ some k_ ≠ (v154 : Value).ownBlock ∧ k_ ≠ gb138 ∧ k_ ≠ gb139) v151 y150) := ⟨h2_⟩
               have n3_ : Aside0 (Kd.R k25 25 w63 w.heap.size (fun k_ => some k_ ≠ (v144 : Value).ownBlock ∧ some k_ ≠ (v147 : Value).ownBlock ∧ some k_ ≠ (v151 : Value).ownBlock ∧ k_ ≠ gb138 ∧ k_ ≠ gb139) v154 y153) := ⟨h3_⟩
               have n4_ : Aside0 (w63.heap[gb138]? = some (.cells vA0 25 (0, 0))) := ⟨h4_⟩
               have n5_ : Aside0 (w63.heap[gb139]? = some (.cells vA1 25 (0, 0))) := ⟨h5_⟩
               have n6_ : Aside0 (Below w.heap.size w w63) := ⟨h6_⟩
               clear BK138
               clear BK139
               clear HB
               clear h0_ h1_ h2_ h3_ h4_ h5_ h6_
               have HO145 := n0_
               have HO148 := n1_
               have HO152 := n2_
               have HO155 := n3_
               have BK138 := n4_
               have BK139 := n5_
               have HB := n6_
               clear n0_ n1_ n2_ n3_ n4_ n5_ n6_
               have hHeld : w63.cell? ⟨gb138, 0, none⟩ = some (.int .i64 4) ∧ w63.cell? ⟨gb138, 1, none⟩ = some (.int .i64 0) ∧ w63.cell? ⟨gb138, 2, none⟩ = some (.int .i64 0) ∧ w63.cell? ⟨gb138, 3, none⟩ = some (.int .u32 0) ∧ w63.cell? ⟨gb138, 4, none⟩ = some (.int .u32 0) ∧ w63.cell? ⟨gb138, 5, none⟩ = some (.int .u32 7) ∧ w63.cell? ⟨gb138, 6, none⟩ = some (.int .u32 0) ∧ w63.cell? ⟨gb138, 7, none⟩ = some (.int .u32 0) ∧ w63.cell? ⟨gb138, 8, none⟩ = some (.int .u32 0) ∧ w63.cell? ⟨gb138, 9, none⟩ = some (.int .u32 1) ∧ w63.cell? ⟨gb139, 0, none⟩ = some (.int .i64 3) ∧ w63.cell? ⟨gb139, 1, none⟩ = some (.int .i64 0) ∧ w63.cell? ⟨gb139, 2, none⟩ = some (.int .i64 0) ∧ w63.cell? ⟨gb139, 3, none⟩ = some (.int .u32 0) ∧ w63.cell? ⟨gb139, 4, none⟩ = some (.int .u32 0) ∧ w63.cell? ⟨gb139, 5, none⟩ = some (.int .u32 7) ∧ w63.cell? ⟨gb139, 6, none⟩ = some (.int .u32 0) ∧ w63.cell? ⟨gb139, 7, none⟩ = some (.int .u32 0) ∧ w63.cell? ⟨gb139, 8, none⟩ = some (.int .u32 0) ∧ w63.cell? ⟨gb139, 9, none⟩ = some (.int .u32 2) := hS_
               obtain ⟨Ao64, co64, eo64⟩ := Kd.R_slice HO152.out
               (first | subst eo64 | (injection eo64 with f1_ f2_ f3_; have f4_ := f1_.symm; have f5_ := f3_.symm; clear f1_ f2_ f3_; subst f4_; subst f5_))
               obtain ⟨Ao65, co65, eo65⟩ := Kd.R_slice HO155.out
               (first | subst eo65 | (injection eo65 with f1_ f2_ f3_; have f4_ := f1_.symm; have f5_ := f3_.symm; clear f1_ f2_ f3_; subst f4_; subst f5_))
               refine norm_ (a' := ?_) ?_ ?_
               rotate_left
               ·
                simp only [putAll, Act.put, List.setIfInBounds_toArray, List.set_cons_zero, List.set_cons_succ]
                rfl
               refine one_ (i := 29) (N := some 34) #[Y,Y,Y,Y,Y,Y,Y,Y,Y,Y,Y,Y,Y,Y,Y,Y,Y,Y,Y,Y,Y,Y,Y,Y,Y,Y,Y,Y,Y,Y,Z,Z,Z,Z,Z,Z,Z,Z,Z,Z,Z,Z,Z,Z,Z,Z,Z] rfl rfl (one_of HT_.out (by kernel_rfl)) (by decide) (fun K hK => ?_)
               refine goes_ Try.func15 (by kernel_rfl) rfl #[.slice Ao64 y150.length co64, .slice Ao65 y153.length co65, .int .i64 32] (by rfl) rfl rfl (by (try simp only [List.map_toArray, List.map_cons, List.map_nil]); first | done | rfl | (simp only [List.length_drop, List.length_take]; rfl)) ?_
               with_reducible refine (log_Match.calls _ _ y150 _ _ y153 32 true _ ?side1 ?side2 ?side3 ?side4 A36.out).mono ?_
               (case side1 => repeat (first | exact (Kd.R_reads' HO152.out).2.2 | (with_reducible refine Kd.C_alloc ?_ _) | (with_reducible refine Kd.C_drewN ?_ _) | (with_reducible refine Kd.C_drew ?_)))
               (case side2 => exact (Kd.R_reads' HO152.out).2.1)
               (case side3 => repeat (first | exact (Kd.R_reads' HO155.out).2.2 | (with_reducible refine Kd.C_alloc ?_ _) | (with_reducible refine Kd.C_drewN ?_ _) | (with_reducible refine Kd.C_drew ?_)))
               (case side4 => exact (Kd.R_reads' HO155.out).2.1)
               rintro e w66 ⟨rfl, hb⟩
               refine ⟨_, rfl, ?_⟩
               have n0_ := Aside0.mk (Kd.R_below (by (with_reducible repeat (first | apply Kd.R_alloc | apply Kd.R_drewN | apply Kd.R_drew)); exact HO145.out) hb)
               have n1_ := Aside0.mk (Kd.R_below (by (with_reducible repeat (first | apply Kd.R_alloc | apply Kd.R_drewN | apply Kd.R_drew)); exact HO148.out) hb)
               have n2_ := Aside0.mk (Kd.R_below (by (with_reducible repeat (first | apply Kd.R_alloc | apply Kd.R_drewN | apply Kd.R_drew)); exact HO152.out) hb)
               have n3_ := Aside0.mk (Kd.R_below (by (with_reducible repeat (first | apply Kd.R_alloc | apply Kd.R_drewN | apply Kd.R_drew)); exact HO155.out) hb)
               have n4_ := Aside0.mk (blk_below (g := gb138) (o := .cells vA0 25 (0, 0)) (by (with_reducible repeat (first | refine blk_drewN ?_ _ | refine blk_drew ?_ | refine blk_alloc ?_ _)); exact BK138.out) hb)
               have n5_ := Aside0.mk (blk_below (g := gb139) (o := .cells vA1 25 (0, 0)) (by (with_reducible repeat (first | refine blk_drewN ?_ _ | refine blk_drew ?_ | refine blk_alloc ?_ _)); exact BK139.out) hb)
               have n6_ := Aside0.mk (below_step (by repeat (first | (with_reducible first | exact HB.out | apply below_alloc | apply pw_below_drewN | apply below_drew1 | refine below_set ?_ GE138.out | refine below_set ?_ GE139.out) | exact HB.out)) hb)
               clear HO145
               clear HO148
               clear HO152
               clear HO155
               clear BK138
               clear BK139
               clear HB
               have HO145 := n0_
               have HO148 := n1_
               have HO152 := n2_
               have HO155 := n3_
               have BK138 := n4_
               have BK139 := n5_
               have HB := n6_
               clear n0_ n1_ n2_ n3_ n4_ n5_ n6_
               (try clear hb)
               (try clear hb2)
               (try clear hk)
               (try clear hi)
               refine hK.out _ _ ⟨(blk_cell BK138.out 0).trans rfl, (blk_cell BK138.out 1).trans rfl, (blk_cell BK138.out 2).trans rfl, (blk_cell BK138.out 3).trans rfl, (blk_cell BK138.out 4).trans rfl, (blk_cell BK138.out 5).trans rfl, (blk_cell BK138.out 6).trans rfl, (blk_cell BK138.out 7).trans rfl, (blk_cell BK138.out 8).trans rfl, (blk_cell BK138.out 9).trans rfl, (blk_cell BK139.out 0).trans rfl, (blk_cell BK139.out 1).trans rfl, (blk_cell BK139.out 2).trans rfl, (blk_cell BK139.out 3).trans rfl, (blk_cell BK139.out 4).trans rfl, (blk_cell BK139.out 5).trans rfl, (blk_cell BK139.out 6).trans rfl, (blk_cell BK139.out 7).trans rfl, (blk_cell BK139.out 8).trans rfl, (blk_cell BK139.out 9).trans rfl⟩ (fun hHeld => ?_)
               clear hK K
               refine norm_ (a' := ?_) ?_ ?_
               rotate_left
               ·
                show Act.put _ (some 34) _ = _
                simp only [Act.put, List.setIfInBounds_toArray, List.set_cons_zero, List.set_cons_succ, i64_w, i32_w]
                rfl
               refine pure_ (i := 30) (N := some 35) (v := ?_) (a' := ?_) #[Y,Y,Y,Y,Y,Y,Y,Y,Y,Y,Y,Y,Y,Y,Y,Y,Y,Y,Y,Y,Y,Y,Y,Y,Y,Y,Y,Y,Y,Y,Y,Z,Z,Z,Z,Z,Z,Z,Z,Z,Z,Z,Z,Z,Z,Z,Z] rfl rfl (any_of HT_.out (by kernel_rfl)) (fun _ _ _ h => h) (Or.inl ⟨by rfl, ?_⟩) ?_ ?_
               rotate_left
               ·
                intro w'
                go_simp
                with_reducible rfl
               rotate_left
               ·
                simp only [Act.put, List.setIfInBounds_toArray, List.set_cons_zero, List.set_cons_succ, i64_w, i32_w]
                rfl
               refine pure_ (i := 31) (N := some 36) (v := ?_) (a' := ?_) #[Y,Y,Y,Y,Y,Y,Y,Y,Y,Y,Y,Y,Y,Y,Y,Y,Y,Y,Y,Y,Y,Y,Y,Y,Y,Y,Y,Y,Y,Y,Y,Y,Z,Z,Z,Z,Z,Z,Z,Z,Z,Z,Z,Z,Z,Z,Z] rfl rfl (any_of HT_.out (by kernel_rfl)) (fun _ _ _ h => h) (Or.inl ⟨by rfl, ?_⟩) ?_ ?_
               rotate_left
               ·
                intro w'
                go_simp
                with_reducible rfl
               rotate_left
               ·
                simp only [Act.put, List.setIfInBounds_toArray, List.set_cons_zero, List.set_cons_succ, i64_w, i32_w]
                rfl
               exact norm_ (by first | (simp only [putAll, Act.put, List.setIfInBounds_toArray, List.set_cons_zero, List.set_cons_succ]; done) | (simp only [putAll, Act.put, List.setIfInBounds_toArray, List.set_cons_zero, List.set_cons_succ]; rfl)) (hJ17_19_20_25_28_29 (v144, v147, .slice Ao64 y150.length co64, .slice Ao65 y153.length co65) _ ⟨hHeld, (by (with_reducible repeat (first | apply Kd.R_alloc | apply Kd.R_drewN | apply Kd.R_drew)); exact HO145.out), (by (with_reducible repeat (first | apply Kd.R_alloc | apply Kd.R_drewN | apply Kd.R_drew)); exact HO148.out), (by (with_reducible repeat (first | apply Kd.R_alloc | apply Kd.R_drewN | apply Kd.R_drew)); exact HO152.out), (by (with_reducible repeat (first | apply Kd.R_alloc | apply Kd.R_drewN | apply Kd.R_drew)); exact HO155.out), (by (with_reducible repeat (first | refine blk_drewN ?_ _ | refine blk_drew ?_ | refine blk_alloc ?_ _)); exact BK138.out), (by (with_reducible repeat (first | refine blk_drewN ?_ _ | refine blk_drew ?_ | refine blk_alloc ?_ _)); exact BK139.out), (by repeat (first | (with_reducible first | exact HB.out | apply below_alloc | apply pw_below_drewN | apply below_drew1 | refine below_set ?_ GE138.out | refine below_set ?_ GE139.out) | exact HB.out))⟩)
             ·
              skip
              rintro ⟨v144, v147, v151, v154⟩ w66 ⟨hS_, h0_, h1_, h2_, h3_, h4_, h5_, h6_⟩
              have n0_ : Aside0 (Kd.R k25 25 w66 w.heap.size (fun k_ => some k_ ≠ (v147 : Value).ownBlock ∧ some k_ ≠ (v151 : Value).ownBlock ∧ some k_ ≠ (v154 : Value).ownBlock ∧ k_ ≠ gb138 ∧ k_ ≠ gb139) v144 y143) := ⟨h0_⟩
              have n1_ : Aside0 (Kd.R k25 25 w66 w.heap.size (fun k_ => some k_ ≠ (v144 : Value).ownBlock ∧ some k_ ≠ (v151 : Value).ownBlock ∧ some k_ ≠ (v154 : Value).ownBlock ∧ k_ ≠ gb138 ∧ k_ ≠ gb139) v147 y146) := ⟨h1_⟩
              have n2_ : Aside0 (Kd.R k25 25 w66 w.heap.size (fun k_ => some k_ ≠ (v144 : Value).ownBlock ∧ some k_ ≠ (v147 : Value).ownBlock ∧ some k_ ≠ (v154 : Value).ownBlock ∧ k_ ≠ gb138 ∧ k_ ≠ gb139) v151 y150) := ⟨h2_⟩
              have n3_ : Aside0 (Kd.R k25 25 w66 w.heap.size (fun k_ => some k_ ≠ (v144 : Value).ownBlock ∧ some k_ ≠ (v147 : Value).ownBlock ∧ some k_ ≠ (v151 : Value).ownBlock ∧ k_ ≠ gb138 ∧ k_ ≠ gb139) v154 y153) := ⟨h3_⟩
              have n4_ : Aside0 (w66.heap[gb138]? = some (.cells vA0 25 (0, 0))) := ⟨h4_⟩
              have n5_ : Aside0 (w66.heap[gb139]? = some (.cells vA1 25 (0, 0))) := ⟨h5_⟩
              have n6_ : Aside0 (Below w.heap.size w w66) := ⟨h6_⟩
              clear BK138
              clear BK139
              clear HB
              clear h0_ h1_ h2_ h3_ h4_ h5_ h6_
              have HO145 := n0_
              have HO148 := n1_
              have HO152 := n2_
              have HO155 := n3_
              have BK138 := n4_
              have BK139 := n5_
              have HB := n6_
              clear n0_ n1_ n2_ n3_ n4_ n5_ n6_
              have hHeld : w66.cell? ⟨gb138, 0, none⟩ = some (.int .i64 4) ∧ w66.cell? ⟨gb138, 1, none⟩ = some (.int .i64 0) ∧ w66.cell? ⟨gb138, 2, none⟩ = some (.int .i64 0) ∧ w66.cell? ⟨gb138, 3, none⟩ = some (.int .u32 0) ∧ w66.cell? ⟨gb138, 4, none⟩ = some (.int .u32 0) ∧ w66.cell? ⟨gb138, 5, none⟩ = some (.int .u32 7) ∧ w66.cell? ⟨gb138, 6, none⟩ = some (.int .u32 0) ∧ w66.cell? ⟨gb138, 7, none⟩ = some (.int .u32 0) ∧ w66.cell? ⟨gb138, 8, none⟩ = some (.int .u32 0) ∧ w66.cell? ⟨gb138, 9, none⟩ = some (.int .u32 1) ∧ w66.cell? ⟨gb139, 0, none⟩ = some (.int .i64 3) ∧ w66.cell? ⟨gb139, 1, none⟩ = some (.int .i64 0) ∧ w66.cell? ⟨gb139, 2, none⟩ = some (.int .i64 0) ∧ w66.cell? ⟨gb139, 3, none⟩ = some (.int .u32 0) ∧ w66.cell? ⟨gb139, 4, none⟩ = some (.int .u32 0) ∧ w66.cell? ⟨gb139, 5, none⟩ = some (.int .u32 7) ∧ w66.cell? ⟨gb139, 6, none⟩ = some (.int .u32 0) ∧ w66.cell? ⟨gb139, 7, none⟩ = some (.int .u32 0) ∧ w66.cell? ⟨gb139, 8, none⟩ = some (.int .u32 0) ∧ w66.cell? ⟨gb139, 9, none⟩ = some (.int .u32 2) := hS_
              refine norm_ (a' := ?_) ?_ ?_
              rotate_left
              ·
               simp only [putAll, Act.put, List.setIfInBounds_toArray, List.set_cons_zero, List.set_cons_succ]
               rfl
              refine one_ (i := 32) (N := some 37) #[Y,Y,Y,Y,Y,Y,Y,Y,Y,Y,Y,Y,Y,Y,Y,Y,Y,Y,Y,Y,Y,Y,Y,Y,Y,Y,Y,Y,Y,Y,Y,Y,Y,Z,Z,Z,Z,Z,Z,Z,Z,Z,Z,Z,Z,Z,Z] rfl rfl (one_of HT_.out (by kernel_rfl)) (by decide) (fun K hK => ?_)
              refine goes_ Try.func15 (by kernel_rfl) rfl #[.slice none 0 0, .slice none 0 0, .int .i64 511] (by rfl) rfl rfl (by (try simp only [List.map_toArray, List.map_cons, List.map_nil]); first | done | rfl | (simp only [List.length_drop, List.length_take]; rfl)) ?_
              refine (log_Match.calls _ _ ([] : List (S25)) _ _ ([] : List (S25)) 511 true _ ?side1 ?side2 ?side3 ?side4 A38.out).mono ?_
              (case side1 => exact Kd.C_nil _ _)
              (case side2 => exact Nat.le_refl _)
              (case side3 => exact Kd.C_nil _ _)
              (case side4 => exact Nat.le_refl _)
              rintro e w67 ⟨rfl, hb⟩
              refine ⟨_, rfl, ?_⟩
              have n0_ := Aside0.mk (Kd.R_below (by (with_reducible repeat (first | apply Kd.R_alloc | apply Kd.R_drewN | apply Kd.R_drew)); exact HO145.out) hb)
              have n1_ := Aside0.mk (Kd.R_below (by (with_reducible repeat (first | apply Kd.R_alloc | apply Kd.R_drewN | apply Kd.R_drew)); exact HO148.out) hb)
              have n2_ := Aside0.mk (Kd.R_below (by (with_reducible repeat (first | apply Kd.R_alloc | apply Kd.R_drewN | apply Kd.R_drew)); exact HO152.out) hb)
              have n3_ := Aside0.mk (Kd.R_below (by (with_reducible repeat (first | apply Kd.R_alloc | apply Kd.R_drewN | apply Kd.R_drew)); exact HO155.out) hb)
              have n4_ := Aside0.mk (blk_below (g := gb138) (o := .cells vA0 25 (0, 0)) (by (with_reducible repeat (first | refine blk_drewN ?_ _ | refine blk_drew ?_ | refine blk_alloc ?_ _)); exact BK138.out) hb)
              have n5_ := Aside0.mk (blk_below (g := gb139) (o := .cells vA1 25 (0, 0)) (by (with_reducible repeat (first | refine blk_drewN ?_ _ | refine blk_drew ?_ | refine blk_alloc ?_ _)); exact BK139.out) hb)
              have n6_ := Aside0.mk (below_step (by repeat (first | (with_reducible first | exact HB.out | apply below_alloc | apply pw_below_drewN | apply below_drew1 | refine below_set ?_ GE138.out | refine below_set ?_ GE139.out) | exact HB.out)) hb)
              clear HO145
              clear HO148
              clear HO152
              clear HO155
              clear BK138
              clear BK139
              clear HB
              have HO145 := n0_
              have HO148 := n1_
              have HO152 := n2_
              have HO155 := n3_
              have BK138 := n4_
              have BK139 := n5_
              have HB := n6_
              clear n0_ n1_ n2_ n3_ n4_ n5_ n6_
              (try clear hb)
              (try clear hb2)
              (try clear hk)
              (try clear hi)
              refine hK.out _ _ ⟨(blk_cell BK138.out 0).trans rfl, (blk_cell BK138.out 1).trans rfl, (blk_cell BK138.out 2).trans rfl, (blk_cell BK138.out 3).trans rfl, (blk_cell BK138.out 4).trans rfl, (blk_cell BK138.out 5).trans rfl, (blk_cell BK138.out 6).trans rfl, (blk_cell BK138.out 7).trans rfl, (blk_cell BK138.out 8).trans rfl, (blk_cell BK138.out 9).trans rfl, (blk_cell BK139.out 0).trans rfl, (blk_cell BK139.out 1).trans rfl, (blk_cell BK139.out 2).trans rfl, (blk_cell BK139.out 3).trans rfl, (blk_cell BK139.out 4).trans rfl, (blk_cell BK139.out 5).trans rfl, (blk_cell BK139.out 6).trans rfl, (blk_cell BK139.out 7).trans rfl, (blk_cell BK139.out 8).trans rfl, (blk_cell BK139.out 9).trans rfl⟩ (fun hHeld => ?_)
              clear hK K
              refine norm_ (a' := ?_) ?_ ?_
              rotate_left
              ·
               show Act.put _ (some 37) _ = _
               simp only [Act.put, List.setIfInBounds_toArray, List.set_cons_zero, List.set_cons_succ, i64_w, i32_w]
               rfl
              refine pure_ (i := 33) (N := some 38) (v := ?_) (a' := ?_) #[Y,Y,Y,Y,Y,Y,Y,Y,Y,Y,Y,Y,Y,Y,Y,Y,Y,Y,Y,Y,Y,Y,Y,Y,Y,Y,Y,Y,Y,Y,Y,Y,Y,Y,Z,Z,Z,Z,Z,Z,Z,Z,Z,Z,Z,Z,Z] rfl rfl (any_of HT_.out (by kernel_rfl)) (fun _ _ _ h => h) (Or.inl ⟨by rfl, ?_⟩) ?_ ?_
              rotate_left
              ·
               intro w'
               go_simp
               with_reducible rfl
              rotate_left
              ·
               simp only [Act.put, List.setIfInBounds_toArray, List.set_cons_zero, List.set_cons_succ, i64_w, i32_w]
               rfl
              refine pure_ (i := 34) (N := some 39) (v := ?_) (a' := ?_) #[Y,Y,Y,Y,Y,Y,Y,Y,Y,Y,Y,Y,Y,Y,Y,Y,Y,Y,Y,Y,Y,Y,Y,Y,Y,Y,Y,Y,Y,Y,Y,Y,Y,Y,Y,Z,Z,Z,Z,Z,Z,Z,Z,Z,Z,Z,Z] rfl rfl (any_of HT_.out (by kernel_rfl)) (fun _ _ _ h => h) (Or.inl ⟨by rfl, ?_⟩) ?_ ?_
              rotate_left
              ·
               intro w'
               go_simp
               with_reducible rfl
              rotate_left
              ·
               simp only [Act.put, List.setIfInBounds_toArray, List.set_cons_zero, List.set_cons_succ, i64_w, i32_w]
               rfl
              refine take_ (i := 35) (N := some 40) (v := ?_) (a' := ?_) #[Y,Y,Y,Y,Y,Y,Y,Y,Y,Y,Y,Y,Y,Y,Y,Y,Y,Y,Y,Y,Y,Y,Y,Y,Y,Y,Y,Y,Y,Y,Y,Y,Y,Y,Y,Y,Z,Z,Z,Z,Z,Z,Z,Z,Z,Z,Z] rfl rfl (take_ofW HT_.out HW_.out (by kernel_rfl)) (fun _ _ _ h => h) (Or.inl ⟨by rfl, ?_⟩) hHeld ?_ ?_
              rotate_left
              ·
               rintro w' ⟨s0, s1, s2, s3, s4, s5, s6, s7, s8, s9, s10, s11, s12, s13, s14, s15, s16, s17, s18, s19⟩
               go_simp
               with_reducible rfl
              rotate_left
              ·
               simp only [Act.put, List.setIfInBounds_toArray, List.set_cons_zero, List.set_cons_succ, i64_w, i32_w]
               rfl
              refine take_ (i := 36) (N := some 41) (v := ?_) (a' := ?_) #[Y,Y,Y,Y,Y,Y,Y,Y,Y,Y,Y,Y,Y,Y,Y,Y,Y,Y,Y,Y,Y,Y,Y,Y,Y,Y,Y,Y,Y,Y,Y,Y,Y,Y,Y,Y,Y,Z,Z,Z,Z,Z,Z,Z,Z,Z,Z] rfl rfl (take_ofW HT_.out HW_.out (by kernel_rfl)) (fun _ _ _ h => h) (Or.inl ⟨by rfl, ?_⟩) hHeld ?_ ?_
              rotate_left
              ·
               rintro w' ⟨s0, s1, s2, s3, s4, s5, s6, s7, s8, s9, s10, s11, s12, s13, s14, s15, s16, s17, s18, s19⟩
               go_simp
               with_reducible rfl
              rotate_left
              ·
               simp only [Act.put, List.setIfInBounds_toArray, List.set_cons_zero, List.set_cons_succ, i64_w, i32_w]
               rfl
              refine take_ (i := 37) (N := some 42) (v := ?_) (a' := ?_) #[Y,Y,Y,Y,Y,Y,Y,Y,Y,Y,Y,Y,Y,Y,Y,Y,Y,Y,Y,Y,Y,Y,Y,Y,Y,Y,Y,Y,Y,Y,Y,Y,Y,Y,Y,Y,Y,Y,Z,Z,Z,Z,Z,Z,Z,Z,Z] rfl rfl (take_ofW HT_.out HW_.out (by kernel_rfl)) (fun _ _ _ h => h) (Or.inl ⟨by rfl, ?_⟩) hHeld ?_ ?_
              rotate_left
              ·
               rintro w' ⟨s0, s1, s2, s3, s4, s5, s6, s7, s8, s9, s10, s11, s12, s13, s14, s15, s16, s17, s18, s19⟩
               go_simp
               with_reducible rfl
              rotate_left
              ·
               simp only [Act.put, List.setIfInBounds_toArray, List.set_cons_zero, List.set_cons_succ, i64_w, i32_w]
               rfl
              refine take_ (i := 39) (N := some 44) (v := ?_) (a' := ?_) #[Y,Y,Y,Y,Y,Y,Y,Y,Y,Y,Y,Y,Y,Y,Y,Y,Y,Y,Y,Y,Y,Y,Y,Y,Y,Y,Y,Y,Y,Y,Y,Y,Y,Y,Y,Y,Y,Y,Z,Y,Z,Z,Z,Z,Z,Z,Z] rfl rfl (take_ofW HT_.out HW_.out (by kernel_rfl)) (fun _ _ _ h => h) (Or.inl ⟨by rfl, ?_⟩) hHeld ?_ ?_
              rotate_left
              ·
               rintro w' ⟨s0, s1, s2, s3, s4, s5, s6, s7, s8, s9, s10, s11, s12, s13, s14, s15, s16, s17, s18, s19⟩
               go_simp
               with_reducible rfl
              rotate_left
              ·
               simp only [Act.put, List.setIfInBounds_toArray, List.set_cons_zero, List.set_cons_succ, i64_w, i32_w]
               rfl
              refine take_ (i := 41) (N := some 46) (v := ?_) (a' := ?_) #[Y,Y,Y,Y,Y,Y,Y,Y,Y,Y,Y,Y,Y,Y,Y,Y,Y,Y,Y,Y,Y,Y,Y,Y,Y,Y,Y,Y,Y,Y,Y,Y,Y,Y,Y,Y,Y,Y,Z,Y,Z,Y,Z,Z,Z,Z,Z] rfl rfl (take_ofW HT_.out HW_.out (by kernel_rfl)) (fun _ _ _ h => h) (Or.inl ⟨by rfl, ?_⟩) hHeld ?_ ?_
              rotate_left
              ·
               rintro w' ⟨s0, s1, s2, s3, s4, s5, s6, s7, s8, s9, s10, s11, s12, s13, s14, s15, s16, s17, s18, s19⟩
               go_simp
               with_reducible rfl
              rotate_left
              ·
               simp only [Act.put, List.setIfInBounds_toArray, List.set_cons_zero, List.set_cons_succ, i64_w, i32_w]
               rfl
              refine take_ (i := 42) (N := some 47) (v := ?_) (a' := ?_) #[Y,Y,Y,Y,Y,Y,Y,Y,Y,Y,Y,Y,Y,Y,Y,Y,Y,Y,Y,Y,Y,Y,Y,Y,Y,Y,Y,Y,Y,Y,Y,Y,Y,Y,Y,Y,Y,Y,Z,Y,Z,Y,Y,Z,Z,Z,Z] rfl rfl (take_ofW HT_.out HW_.out (by kernel_rfl)) (fun _ _ _ h => h) (Or.inl ⟨by rfl, ?_⟩) hHeld ?_ ?_
              rotate_left
              ·
               rintro w' ⟨s0, s1, s2, s3, s4, s5, s6, s7, s8, s9, s10, s11, s12, s13, s14, s15, s16, s17, s18, s19⟩
               go_simp
               with_reducible rfl
              rotate_left
              ·
               simp only [Act.put, List.setIfInBounds_toArray, List.set_cons_zero, List.set_cons_succ, i64_w, i32_w]
               rfl
              exact norm_ (by first | (simp only [putAll, Act.put, List.setIfInBounds_toArray, List.set_cons_zero, List.set_cons_succ]; done) | (simp only [putAll, Act.put, List.setIfInBounds_toArray, List.set_cons_zero, List.set_cons_succ]; rfl)) (hJ17_19_20_25_28_29_32 (v144, v147, v151, v154) _ ⟨hHeld, (by (with_reducible repeat (first | apply Kd.R_alloc | apply Kd.R_drewN | apply Kd.R_drew)); exact HO145.out), (by (with_reducible repeat (first | apply Kd.R_alloc | apply Kd.R_drewN | apply Kd.R_drew)); exact HO148.out), (by (with_reducible repeat (first | apply Kd.R_alloc | apply Kd.R_drewN | apply Kd.R_drew)); exact HO152.out), (by (with_reducible repeat (first | apply Kd.R_alloc | apply Kd.R_drewN | apply Kd.R_drew)); exact HO155.out), (by (with_reducible repeat (first | refine blk_drewN ?_ _ | refine blk_drew ?_ | refine blk_alloc ?_ _)); exact BK138.out), (by (with_reducible repeat (first | refine blk_drewN ?_ _ | refine blk_drew ?_ | refine blk_alloc ?_ _)); exact BK139.out), (by repeat (first | (with_reducible first | exact HB.out | apply below_alloc | apply pw_below_drewN | apply below_drew1 | refine below_set ?_ GE138.out | refine below_set ?_ GE139.out) | exact HB.out))⟩)
            ·
             skip
             rintro ⟨v144, v147, v151, v154⟩ w67 ⟨hS_, h0_, h1_, h2_, h3_, h4_, h5_, h6_⟩
             have n0_ : Aside0 (Kd.R k25 25 w67 w.heap.size (fun k_ => some k_ ≠ (v147 : Value).ownBlock ∧ some k_ ≠ (v151 : Value).ownBlock ∧ some k_ ≠ (v154 : Value).ownBlock ∧ k_ ≠ gb138 ∧ k_ ≠ gb139) v144 y143) := ⟨h0_⟩
             have n1_ : Aside0 (Kd.R k25 25 w67 w.heap.size (fun k_ => some k_ ≠ (v144 : Value).ownBlock ∧ some k_ ≠ (v151 : Value).ownBlock ∧ some k_ ≠ (v154 : Value).ownBlock ∧ k_ ≠ gb138 ∧ k_ ≠ gb139) v147 y146) := ⟨h1_⟩
             have n2_ : Aside0 (Kd.R k25 25 w67 w.heap.size (fun k_ => some k_ ≠ (v144 : Value).ownBlock ∧ some k_ ≠ (v147 : Value).ownBlock ∧ some k_ ≠ (v154 : Value).ownBlock ∧ k_ ≠ gb138 ∧ k_ ≠ gb139) v151 y150) := ⟨h2_⟩
             have n3_ : Aside0 (Kd.R k25 25 w67 w.heap.size (fun k_ => some k_ ≠ (v144 : Value).ownBlock ∧ some k_ ≠ (v147 : Value).ownBlock ∧ some k_ ≠ (v151 : Value).ownBlock ∧ k_ ≠ gb138 ∧ k_ ≠ gb139) v154 y153) := ⟨h3_⟩
             have n4_ : Aside0 (w67.heap[gb138]? = some (.cells vA0 25 (0, 0))) := ⟨h4_⟩
             have n5_ : Aside0 (w67.heap[gb139]? = some (.cells vA1 25 (0, 0))) := ⟨h5_⟩
             have n6_ : Aside0 (Below w.heap.size w w67) := ⟨h6_⟩
             clear BK138
             clear BK139
             clear HB
             clear h0_ h1_ h2_ h3_ h4_ h5_ h6_
             have HO145 := n0_
             have HO148 := n1_
             have HO152 := n2_
             have HO155 := n3_
             have BK138 := n4_
             have BK139 := n5_
             have HB := n6_
             clear n0_ n1_ n2_ n3_ n4_ n5_ n6_
             have hHeld : w67.cell? ⟨gb138, 0, none⟩ = some (.int .i64 4) ∧ w67.cell? ⟨gb138, 1, none⟩ = some (.int .i64 0) ∧ w67.cell? ⟨gb138, 2, none⟩ = some (.int .i64 0) ∧ w67.cell? ⟨gb138, 3, none⟩ = some (.int .u32 0) ∧ w67.cell? ⟨gb138, 4, none⟩ = some (.int .u32 0) ∧ w67.cell? ⟨gb138, 5, none⟩ = some (.int .u32 7) ∧ w67.cell? ⟨gb138, 6, none⟩ = some (.int .u32 0) ∧ w67.cell? ⟨gb138, 7, none⟩ = some (.int .u32 0) ∧ w67.cell? ⟨gb138, 8, none⟩ = some (.int .u32 0) ∧ w67.cell? ⟨gb138, 9, none⟩ = some (.int .u32 1) ∧ w67.cell? ⟨gb139, 0, none⟩ = some (.int .i64 3) ∧ w67.cell? ⟨gb139, 1, none⟩ = some (.int .i64 0) ∧ w67.cell? ⟨gb139, 2, none⟩ = some (.int .i64 0) ∧ w67.cell? ⟨gb139, 3, none⟩ = some (.int .u32 0) ∧ w67.cell? ⟨gb139, 4, none⟩ = some (.int .u32 0) ∧ w67.cell? ⟨gb139, 5, none⟩ = some (.int .u32 7) ∧ w67.cell? ⟨gb139, 6, none⟩ = some (.int .u32 0) ∧ w67.cell? ⟨gb139, 7, none⟩ = some (.int .u32 0) ∧ w67.cell? ⟨gb139, 8, none⟩ = some (.int .u32 0) ∧ w67.cell? ⟨gb139, 9, none⟩ = some (.int .u32 2) := hS_
             refine norm_ (a' := ?_) ?_ ?_
             rotate_left
             ·
              simp only [putAll, Act.put, List.setIfInBounds_toArray, List.set_cons_zero, List.set_cons_succ]
              rfl
             refine two_ (i := 38) (j := 43) (Ni := some 43) (Nj := some 48) #[Y,Y,Y,Y,Y,Y,Y,Y,Y,Y,Y,Y,Y,Y,Y,Y,Y,Y,Y,Y,Y,Y,Y,Y,Y,Y,Y,Y,Y,Y,Y,Y,Y,Y,Y,Y,Y,Y,Y,Y,Z,Y,Y,Z,Z,Z,Z] #[Y,Y,Y,Y,Y,Y,Y,Y,Y,Y,Y,Y,Y,Y,Y,Y,Y,Y,Y,Y,Y,Y,Y,Y,Y,Y,Y,Y,Y,Y,Y,Y,Y,Y,Y,Y,Y,Y,Z,Y,Z,Y,Y,Y,Z,Z,Z] rfl rfl rfl rfl (two_of HT_.out (by kernel_rfl)) (by decide) (by decide) (fun K hK => ?_) (fun K hK => ?_)
             ·
              skip
              refine Kd.R_lit_step k25 _ 25 ?hg (N := 43) ?hd (xs := ([(⟨4, 0, 0, 0, 0, 7, 0, 0, 0, 1⟩ : S25), (⟨3, 0, 0, 0, 0, 7, 0, 0, 0, 2⟩ : S25), (⟨4, 0, 0, 0, 0, 7, 0, 0, 0, 1⟩ : S25)] : List (S25))) (inner := [.int .i64 4, .int .i64 0, .int .i64 0, .int .u32 0, .int .u32 0, .int .u32 7, .int .u32 0, .int .u32 0, .int .u32 0, .int .u32 1, .int .i64 3, .int .i64 0, .int .i64 0, .int .u32 0, .int .u32 0, .int .u32 7, .int .u32 0, .int .u32 0, .int .u32 0, .int .u32 2, .int .i64 4, .int .i64 0, .int .i64 0, .int .u32 0, .int .u32 0, .int .u32 7, .int .u32 0, .int .u32 0, .int .u32 0, .int .u32 1]) (ok := fun _ => True) (okp := fun _ => True) ?hr ?hp (fun _ hk => hk) trivial (Below.refl _ _) (Nat.le_refl _) (by simp) ?_; (case hd => rfl); (case hg => rfl); (case hr => first | (go_simp; done) | (go_simp; rfl)); (case hp => exact (Reps.c10 (show Kd.M k25 _ _ _ (⟨4, 0, 0, 0, 0, 7, 0, 0, 0, 1⟩ : S25) [.int .i64 4, .int .i64 0, .int .i64 0, .int .u32 0, .int .u32 0, .int .u32 7, .int .u32 0, .int .u32 0, .int .u32 0, .int .u32 1] from (k25_mkM _ _ _ (⟨4, 0, 0, 0, 0, 7, 0, 0, 0, 1⟩ : S25) )) (Reps.c10 (show Kd.M k25 _ _ _ (⟨3, 0, 0, 0, 0, 7, 0, 0, 0, 2⟩ : S25) [.int .i64 3, .int .i64 0, .int .i64 0, .int .u32 0, .int .u32 0, .int .u32 7, .int .u32 0, .int .u32 0, .int .u32 0, .int .u32 2] from (k25_mkM _ _ _ (⟨3, 0, 0, 0, 0, 7, 0, 0, 0, 2⟩ : S25) )) (Reps.c10 (show Kd.M k25 _ _ _ (⟨4, 0, 0, 0, 0, 7, 0, 0, 0, 1⟩ : S25) [.int .i64 4, .int .i64 0, .int .i64 0, .int .u32 0, .int .u32 0, .int .u32 7, .int .u32 0, .int .u32 0, .int .u32 0, .int .u32 1] from (k25_mkM _ _ _ (⟨4, 0, 0, 0, 0, 7, 0, 0, 0, 1⟩ : S25) )) (Reps.none _ _)))))
              intro v159 w68 ho69 hb hg_ hnew_
              clear hg_ hnew_
              (first | rw [← Ny158.out] at ho69 | (simp only [Int.reduceToNat] at ho69; rw [← Ny158.out] at ho69))
              have n0_ := Aside0.mk (Kd.R_elder' (by (with_reducible repeat (first | apply Kd.R_alloc | apply Kd.R_drewN | apply Kd.R_drew)); exact HO145.out) (Kd.R_base ho69) hb)
              have n1_ := Aside0.mk (Kd.R_elder' (by (with_reducible repeat (first | apply Kd.R_alloc | apply Kd.R_drewN | apply Kd.R_drew)); exact HO148.out) (Kd.R_base ho69) hb)
              have n2_ := Aside0.mk (Kd.R_elder' (by (with_reducible repeat (first | apply Kd.R_alloc | apply Kd.R_drewN | apply Kd.R_drew)); exact HO152.out) (Kd.R_base ho69) hb)
              have n3_ := Aside0.mk (Kd.R_elder' (by (with_reducible repeat (first | apply Kd.R_alloc | apply Kd.R_drewN | apply Kd.R_drew)); exact HO155.out) (Kd.R_base ho69) hb)
              have n4_ := Aside0.mk (Kd.R_lower (Kd.R_newB (Kd.R_newB (Kd.R_new' (Kd.R_new' (Kd.R_new' (Kd.R_new' ho69 (Kd.R_lt (by (with_reducible repeat (first | apply Kd.R_alloc | apply Kd.R_drewN | apply Kd.R_drew)); exact HO145.out))) (Kd.R_lt (by (with_reducible repeat (first | apply Kd.R_alloc | apply Kd.R_drewN | apply Kd.R_drew)); exact HO148.out))) (Kd.R_lt (by (with_reducible repeat (first | apply Kd.R_alloc | apply Kd.R_drewN | apply Kd.R_drew)); exact HO152.out))) (Kd.R_lt (by (with_reducible repeat (first | apply Kd.R_alloc | apply Kd.R_drewN | apply Kd.R_drew)); exact HO155.out))) (g := gb138) (o := .cells vA0 25 (0, 0)) (by (with_reducible repeat (first | refine blk_drewN ?_ _ | refine blk_drew ?_ | refine blk_alloc ?_ _)); exact BK138.out)) (g := gb139) (o := .cells vA1 25 (0, 0)) (by (with_reducible repeat (first | refine blk_drewN ?_ _ | refine blk_drew ?_ | refine blk_alloc ?_ _)); exact BK139.out)) (below_size (by repeat (first | (with_reducible first | exact HB.out | apply below_alloc | apply pw_below_drewN | apply below_drew1 | refine below_set ?_ GE138.out | refine below_set ?_ GE139.out) | exact HB.out))))
              have n5_ := Aside0.mk (blk_below (g := gb138) (o := .cells vA0 25 (0, 0)) (by (with_reducible repeat (first | refine blk_drewN ?_ _ | refine blk_drew ?_ | refine blk_alloc ?_ _)); exact BK138.out) hb)
              have n6_ := Aside0.mk (blk_below (g := gb139) (o := .cells vA1 25 (0, 0)) (by (with_reducible repeat (first | refine blk_drewN ?_ _ | refine blk_drew ?_ | refine blk_alloc ?_ _)); exact BK139.out) hb)
              have n7_ := Aside0.mk (below_step (by repeat (first | (with_reducible first | exact HB.out | apply below_alloc | apply pw_below_drewN | apply below_drew1 | refine below_set ?_ GE138.out | refine below_set ?_ GE139.out) | exact HB.out)) hb)
              clear HO145
              clear HO148
              clear HO152
              clear HO155
              clear BK138
              clear BK139
              clear HB
              have HO145 := n0_
              have HO148 := n1_
              have HO152 := n2_
              have HO155 := n3_
              have HO160 := n4_
              have BK138 := n5_
              have BK139 := n6_
              have HB := n7_
              clear n0_ n1_ n2_ n3_ n4_ n5_ n6_ n7_
              clear hb ho69
              refine hK.out _ _ ⟨(blk_cell BK138.out 0).trans rfl, (blk_cell BK138.out 1).trans rfl, (blk_cell BK138.out 2).trans rfl, (blk_cell BK138.out 3).trans rfl, (blk_cell BK138.out 4).trans rfl, (blk_cell BK138.out 5).trans rfl, (blk_cell BK138.out 6).trans rfl, (blk_cell BK138.out 7).trans rfl, (blk_cell BK138.out 8).trans rfl, (blk_cell BK138.out 9).trans rfl, (blk_cell BK139.out 0).trans rfl, (blk_cell BK139.out 1).trans rfl, (blk_cell BK139.out 2).trans rfl, (blk_cell BK139.out 3).trans rfl, (blk_cell BK139.out 4).trans rfl, (blk_cell BK139.out 5).trans rfl, (blk_cell BK139.out 6).trans rfl, (blk_cell BK139.out 7).trans rfl, (blk_cell BK139.out 8).trans rfl, (blk_cell BK139.out 9).trans rfl⟩ (fun hHeld => ?_)
              clear hK K
              refine norm_ (a' := ?_) ?_ ?_
              rotate_left
              ·
               show Act.put _ (some 43) _ = _
               simp only [Act.put, List.setIfInBounds_toArray, List.set_cons_zero, List.set_cons_succ, i64_w, i32_w]
               rfl
              exact norm_ (by first | (simp only [putAll, Act.put, List.setIfInBounds_toArray, List.set_cons_zero, List.set_cons_succ]; done) | (simp only [putAll, Act.put, List.setIfInBounds_toArray, List.set_cons_zero, List.set_cons_succ]; rfl)) (hJ17_19_20_25_28_29_32_38 (v144, v147, v151, v154, v159) _ ⟨hHeld, (by (with_reducible repeat (first | apply Kd.R_alloc | apply Kd.R_drewN | apply Kd.R_drew)); exact Kd.R_mono HO145.out (fun _ hk => ⟨hk.1.1, ⟨hk.1.2.1, ⟨hk.1.2.2.1, ⟨hk.2, ⟨hk.1.2.2.2.1, hk.1.2.2.2.2⟩⟩⟩⟩⟩)), (by (with_reducible repeat (first | apply Kd.R_alloc | apply Kd.R_drewN | apply Kd.R_drew)); exact Kd.R_mono HO148.out (fun _ hk => ⟨hk.1.1, ⟨hk.1.2.1, ⟨hk.1.2.2.1, ⟨hk.2, ⟨hk.1.2.2.2.1, hk.1.2.2.2.2⟩⟩⟩⟩⟩)), (by (with_reducible repeat (first | apply Kd.R_alloc | apply Kd.R_drewN | apply Kd.R_drew)); exact Kd.R_mono HO152.out (fun _ hk => ⟨hk.1.1, ⟨hk.1.2.1, ⟨hk.1.2.2.1, ⟨hk.2, ⟨hk.1.2.2.2.1, hk.1.2.2.2.2⟩⟩⟩⟩⟩)), (by (with_reducible repeat (first | apply Kd.R_alloc | apply Kd.R_drewN | apply Kd.R_drew)); exact Kd.R_mono HO155.out (fun _ hk => ⟨hk.1.1, ⟨hk.1.2.1, ⟨hk.1.2.2.1, ⟨hk.2, ⟨hk.1.2.2.2.1, hk.1.2.2.2.2⟩⟩⟩⟩⟩)), (by (with_reducible repeat (first | apply Kd.R_alloc | apply Kd.R_drewN | apply Kd.R_drew)); exact Kd.R_mono HO160.out (fun _ hk => ⟨hk.1.1.1.1.1.2, ⟨hk.1.1.1.1.2, ⟨hk.1.1.1.2, ⟨hk.1.1.2, ⟨hk.1.2, hk.2⟩⟩⟩⟩⟩)), (by (with_reducible repeat (first | refine blk_drewN ?_ _ | refine blk_drew ?_ | refine blk_alloc ?_ _)); exact BK138.out), (by (with_reducible repeat (first | refine blk_drewN ?_ _ | refine blk_drew ?_ | refine blk_alloc ?_ _)); exact BK139.out), (by repeat (first | (with_reducible first | exact HB.out | apply below_alloc | apply pw_below_drewN | apply below_drew1 | refine below_set ?_ GE138.out | refine below_set ?_ GE139.out) | exact HB.out))⟩)
             ·
              skip
              refine Kd.R_lit_step k25 _ 25 ?hg (N := 48) ?hd (xs := ([(⟨4, 0, 0, 0, 0, 7, 0, 0, 0, 1⟩ : S25), (⟨4, 0, 0, 0, 0, 7, 0, 0, 0, 1⟩ : S25)] : List (S25))) (inner := [.int .i64 4, .int .i64 0, .int .i64 0, .int .u32 0, .int .u32 0, .int .u32 7, .int .u32 0, .int .u32 0, .int .u32 0, .int .u32 1, .int .i64 4, .int .i64 0, .int .i64 0, .int .u32 0, .int .u32 0, .int .u32 7, .int .u32 0, .int .u32 0, .int .u32 0, .int .u32 1]) (ok := fun _ => True) (okp := fun _ => True) ?hr ?hp (fun _ hk => hk) trivial (Below.refl _ _) (Nat.le_refl _) (by simp) ?_; (case hd => rfl); (case hg => rfl); (case hr => first | (go_simp; done) | (go_simp; rfl)); (case hp => exact (Reps.c10 (show Kd.M k25 _ _ _ (⟨4, 0, 0, 0, 0, 7, 0, 0, 0, 1⟩ : S25) [.int .i64 4, .int .i64 0, .int .i64 0, .int .u32 0, .int .u32 0, .int .u32 7, .int .u32 0, .int .u32 0, .int .u32 0, .int .u32 1] from (k25_mkM _ _ _ (⟨4, 0, 0, 0, 0, 7, 0, 0, 0, 1⟩ : S25) )) (Reps.c10 (show Kd.M k25 _ _ _ (⟨4, 0, 0, 0, 0, 7, 0, 0, 0, 1⟩ : S25) [.int .i64 4, .int .i64 0, .int .i64 0, .int .u32 0, .int .u32 0, .int .u32 7, .int .u32 0, .int .u32 0, .int .u32 0, .int .u32 1] from (k25_mkM _ _ _ (⟨4, 0, 0, 0, 0, 7, 0, 0, 0, 1⟩ : S25) )) (Reps.none _ _))))
              intro v165 w68 ho69 hb hg_ hnew_
              clear hg_ hnew_
              (first | rw [← Ny164.out] at ho69 | (simp only [Int.reduceToNat] at ho69; rw [← Ny164.out] at ho69))
              have n0_ := Aside0.mk (Kd.R_elder' (by (with_reducible repeat (first | apply Kd.R_alloc | apply Kd.R_drewN | apply Kd.R_drew)); exact HO145.out) (Kd.R_base ho69) hb)
              have n1_ := Aside0.mk (Kd.R_elder' (by (with_reducible repeat (first | apply Kd.R_alloc | apply Kd.R_drewN | apply Kd.R_drew)); exact HO148.out) (Kd.R_base ho69) hb)
              have n2_ := Aside0.mk (Kd.R_elder' (by (with_reducible repeat (first | apply Kd.R_alloc | apply Kd.R_drewN | apply Kd.R_drew)); exact HO152.out) (Kd.R_base ho69) hb)
              have n3_ := Aside0.mk (Kd.R_elder' (by (with_reducible repeat (first | apply Kd.R_alloc | apply Kd.R_drewN | apply Kd.R_drew)); exact HO155.out) (Kd.R_base ho69) hb)
              have n4_ := Aside0.mk (Kd.R_lower (Kd.R_newB (Kd.R_newB (Kd.R_new' (Kd.R_new' (Kd.R_new' (Kd.R_new' ho69 (Kd.R_lt (by (with_reducible repeat (first | apply Kd.R_alloc | apply Kd.R_drewN | apply Kd.R_drew)); exact HO145.out))) (Kd.R_lt (by (with_reducible repeat (first | apply Kd.R_alloc | apply Kd.R_drewN | apply Kd.R_drew)); exact HO148.out))) (Kd.R_lt (by (with_reducible repeat (first | apply Kd.R_alloc | apply Kd.R_drewN | apply Kd.R_drew)); exact HO152.out))) (Kd.R_lt (by (with_reducible repeat (first | apply Kd.R_alloc | apply Kd.R_drewN | apply Kd.R_drew)); exact HO155.out))) (g := gb138) (o := .cells vA0 25 (0, 0)) (by (with_reducible repeat (first | refine blk_drewN ?_ _ | refine blk_drew ?_ | refine blk_alloc ?_ _)); exact BK138.out)) (g := gb139) (o := .cells vA1 25 (0, 0)) (by (with_reducible repeat (first | refine blk_drewN ?_ _ | refine blk_drew ?_ | refine blk_alloc ?_ _)); exact BK139.out)) (below_size (by repeat (first | (with_reducible first | exact HB.out | apply below_alloc | apply pw_below_drewN | apply below_drew1 | refine below_set ?_ GE138.out | refine below_set ?_ GE139.out) | exact HB.out))))
              have n5_ := Aside0.mk (blk_below (g := gb138) (o := .cells vA0 25 (0, 0)) (by (with_reducible repeat (first | refine blk_drewN ?_ _ | refine blk_drew ?_ | refine blk_alloc ?_ _)); exact BK138.out) hb)
              have n6_ := Aside0.mk (blk_below (g := gb139) (o := .cells vA1 25 (0, 0)) (by (with_reducible repeat (first | refine blk_drewN ?_ _ | refine blk_drew ?_ | refine blk_alloc ?_ _)); exact BK139.out) hb)
              have n7_ := Aside0.mk (below_step (by repeat (first | (with_reducible first | exact HB.out | apply below_alloc | apply pw_below_drewN | apply below_drew1 | refine below_set ?_ GE138.out | refine below_set ?_ GE139.out) | exact HB.out)) hb)
              clear HO145
              clear HO148
              clear HO152
              clear HO155
              clear BK138
              clear BK139
              clear HB
              have HO145 := n0_
              have HO148 := n1_
              have HO152 := n2_
              have HO155 := n3_
              have HO166 := n4_
              have BK138 := n5_
              have BK139 := n6_
              have HB := n7_
              clear n0_ n1_ n2_ n3_ n4_ n5_ n6_ n7_
              clear hb ho69
              refine hK.out _ _ ⟨(blk_cell BK138.out 0).trans rfl, (blk_cell BK138.out 1).trans rfl, (blk_cell BK138.out 2).trans rfl, (blk_cell BK138.out 3).trans rfl, (blk_cell BK138.out 4).trans rfl, (blk_cell BK138.out 5).trans rfl, (blk_cell BK138.out 6).trans rfl, (blk_cell BK138.out 7).trans rfl, (blk_cell BK138.out 8).trans rfl, (blk_cell BK138.out 9).trans rfl, (blk_cell BK139.out 0).trans rfl, (blk_cell BK139.out 1).trans rfl, (blk_cell BK139.out 2).trans rfl, (blk_cell BK139.out 3).trans rfl, (blk_cell BK139.out 4).trans rfl, (blk_cell BK139.out 5).trans rfl, (blk_cell BK139.out 6).trans rfl, (blk_cell BK139.out 7).trans rfl, (blk_cell BK139.out 8).trans rfl, (blk_cell BK139.out 9).trans rfl⟩ (fun hHeld => ?_)
              clear hK K
              refine norm_ (a' := ?_) ?_ ?_
              rotate_left
              ·
               show Act.put _ (some 48) _ = _
               simp only [Act.put, List.setIfInBounds_toArray, List.set_cons_zero, List.set_cons_succ, i64_w, i32_w]
               rfl
              exact norm_ (by first | (simp only [putAll, Act.put, List.setIfInBounds_toArray, List.set_cons_zero, List.set_cons_succ]; done) | (simp only [putAll, Act.put, List.setIfInBounds_toArray, List.set_cons_zero, List.set_cons_succ]; rfl)) (hJ17_19_20_25_28_29_32_43 (v144, v147, v151, v154, v165) _ ⟨hHeld, (by (with_reducible repeat (first | apply Kd.R_alloc | apply Kd.R_drewN | apply Kd.R_drew)); exact Kd.R_mono HO145.out (fun _ hk => ⟨hk.1.1, ⟨hk.1.2.1, ⟨hk.1.2.2.1, ⟨hk.2, ⟨hk.1.2.2.2.1, hk.1.2.2.2.2⟩⟩⟩⟩⟩)), (by (with_reducible repeat (first | apply Kd.R_alloc | apply Kd.R_drewN | apply Kd.R_drew)); exact Kd.R_mono HO148.out (fun _ hk => ⟨hk.1.1, ⟨hk.1.2.1, ⟨hk.1.2.2.1, ⟨hk.2, ⟨hk.1.2.2.2.1, hk.1.2.2.2.2⟩⟩⟩⟩⟩)), (by (with_reducible repeat (first | apply Kd.R_alloc | apply Kd.R_drewN | apply Kd.R_drew)); exact Kd.R_mono HO152.out (fun _ hk => ⟨hk.1.1, ⟨hk.1.2.1, ⟨hk.1.2.2.1, ⟨hk.2, ⟨hk.1.2.2.2.1, hk.1.2.2.2.2⟩⟩⟩⟩⟩)), (by (with_reducible repeat (first | apply Kd.R_alloc | apply Kd.R_drewN | apply Kd.R_drew)); exact Kd.R_mono HO155.out (fun _ hk => ⟨hk.1.1, ⟨hk.1.2.1, ⟨hk.1.2.2.1, ⟨hk.2, ⟨hk.1.2.2.2.1, hk.1.2.2.2.2⟩⟩⟩⟩⟩)), (by (with_reducible repeat (first | apply Kd.R_alloc | apply Kd.R_drewN | apply Kd.R_drew)); exact Kd.R_mono HO166.out (fun _ hk => ⟨hk.1.1.1.1.1.2, ⟨hk.1.1.1.1.2, ⟨hk.1.1.1.2, ⟨hk.1.1.2, ⟨hk.1.2, hk.2⟩⟩⟩⟩⟩)), (by (with_reducible repeat (first | refine blk_drewN ?_ _ | refine blk_drew ?_ | refine blk_alloc ?_ _)); exact BK138.out), (by (with_reducible repeat (first | refine blk_drewN ?_ _ | refine blk_drew ?_ | refine blk_alloc ?_ _)); exact BK139.out), (by repeat (first | (with_reducible first | exact HB.out | apply below_alloc | apply pw_below_drewN | apply below_drew1 | refine below_set ?_ GE138.out | refine below_set ?_ GE139.out) | exact HB.out))⟩)
           ·
            skip
            rintro ⟨v144, v147, v151, v154, v165⟩ w69 ⟨hS_, h0_, h1_, h2_, h3_, h4_, h5_, h6_, h7_⟩
            have n0_ : Aside0 (Kd.R k25 25 w69 w.heap.size (fun k_ => some k_ ≠ (v147 : Value).ownBlock ∧ some k_ ≠ (v151 : Value).ownBlock ∧ some k_ ≠ (v154 : Value).ownBlock ∧ some k_ ≠ (v165 : Value).ownBlock ∧ k_ ≠ gb138 ∧ k_ ≠ gb139) v144 y143) := ⟨h0_⟩
            have n1_ : Aside0 (Kd.R k25 25 w69 w.heap.size (fun k_ => some k_ ≠ (v144 : Value).ownBlock ∧ some k_ ≠ (v151 : Value).ownBlock ∧ some k_ ≠ (v154 : Value).ownBlock ∧ some k_ ≠ (v165 : Value).ownBlock ∧ k_ ≠ gb138 ∧ k_ ≠ gb139) v147 y146) := ⟨h1_⟩
            have n2_ : Aside0 (Kd.R k25 25 w69 w.heap.size (fun k_ => some k_ ≠ (v144 : Value).ownBlock ∧ some k_ ≠ (v147 : Value).ownBlock ∧ some k_ ≠ (v154 : Value).ownBlock ∧ some k_ ≠ (v165 : Value).ownBlock ∧ k_ ≠ gb138 ∧ k_ ≠ gb139) v151 y150) := ⟨h2_⟩
            have n3_ : Aside0 (Kd.R k25 25 w69 w.heap.size (fun k_ => some k_ ≠ (v144 : Value).ownBlock ∧ some k_ ≠ (v147 : Value).ownBlock ∧ some k_ ≠ (v151 : Value).ownBlock ∧ some k_ ≠ (v165 : Value).ownBlock ∧ k_ ≠ gb138 ∧ k_ ≠ gb139) v154 y153) := ⟨h3_⟩
            have n4_ : Aside0 (Kd.R k25 25 w69 w.heap.size (fun k_ => some k_ ≠ (v144 : Value).ownBlock ∧ some k_ ≠ (v147 : Value).ownBlock ∧ some k_ ≠ (v151 : Value).ownBlock ∧ some k_ ≠ (v154 : Value).ownBlock ∧ k_ ≠ gb138 ∧ k_ ≠ gb139) v165 y164) := ⟨h4_⟩
            have n5_ : Aside0 (w69.heap[gb138]? = some (.cells vA0 25 (0, 0))) := ⟨h5_⟩
            have n6_ : Aside0 (w69.heap[gb139]? = some (.cells vA1 25 (0, 0))) := ⟨h6_⟩
            have n7_ : Aside0 (Below w.heap.size w w69) := ⟨h7_⟩
            clear BK138
            clear BK139
            clear HB
            clear h0_ h1_ h2_ h3_ h4_ h5_ h6_ h7_
            have HO145 := n0_
            have HO148 := n1_
            have HO152 := n2_
            have HO155 := n3_
            have HO166 := n4_
            have BK138 := n5_
            have BK139 := n6_
            have HB := n7_
            clear n0_ n1_ n2_ n3_ n4_ n5_ n6_ n7_
            have hHeld : w69.cell? ⟨gb138, 0, none⟩ = some (.int .i64 4) ∧ w69.cell? ⟨gb138, 1, none⟩ = some (.int .i64 0) ∧ w69.cell? ⟨gb138, 2, none⟩ = some (.int .i64 0) ∧ w69.cell? ⟨gb138, 3, none⟩ = some (.int .u32 0) ∧ w69.cell? ⟨gb138, 4, none⟩ = some (.int .u32 0) ∧ w69.cell? ⟨gb138, 5, none⟩ = some (.int .u32 7) ∧ w69.cell? ⟨gb138, 6, none⟩ = some (.int .u32 0) ∧ w69.cell? ⟨gb138, 7, none⟩ = some (.int .u32 0) ∧ w69.cell? ⟨gb138, 8, none⟩ = some (.int .u32 0) ∧ w69.cell? ⟨gb138, 9, none⟩ = some (.int .u32 1) ∧ w69.cell? ⟨gb139, 0, none⟩ = some (.int .i64 3) ∧ w69.cell? ⟨gb139, 1, none⟩ = some (.int .i64 0) ∧ w69.cell? ⟨gb139, 2, none⟩ = some (.int .i64 0) ∧ w69.cell? ⟨gb139, 3, none⟩ = some (.int .u32 0) ∧ w69.cell? ⟨gb139, 4, none⟩ = some (.int .u32 0) ∧ w69.cell? ⟨gb139, 5, none⟩ = some (.int .u32 7) ∧ w69.cell? ⟨gb139, 6, none⟩ = some (.int .u32 0) ∧ w69.cell? ⟨gb139, 7, none⟩ = some (.int .u32 0) ∧ w69.cell? ⟨gb139, 8, none⟩ = some (.int .u32 0) ∧ w69.cell? ⟨gb139, 9, none⟩ = some (.int .u32 2) := hS_
            refine norm_ (a' := ?_) ?_ ?_
            rotate_left
            ·
             simp only [putAll, Act.put, List.setIfInBounds_toArray, List.set_cons_zero, List.set_cons_succ]
             rfl
            refine one_ (i := 38) (N := some 43) #[Y,Y,Y,Y,Y,Y,Y,Y,Y,Y,Y,Y,Y,Y,Y,Y,Y,Y,Y,Y,Y,Y,Y,Y,Y,Y,Y,Y,Y,Y,Y,Y,Y,Y,Y,Y,Y,Y,Y,Y,Z,Y,Y,Y,Z,Z,Z] rfl rfl (one_of HT_.out (by kernel_rfl)) (by decide) (fun K hK => ?_)
            refine Kd.R_lit_step k25 _ 25 ?hg (N := 43) ?hd (xs := ([(⟨4, 0, 0, 0, 0, 7, 0, 0, 0, 1⟩ : S25), (⟨3, 0, 0, 0, 0, 7, 0, 0, 0, 2⟩ : S25), (⟨4, 0, 0, 0, 0, 7, 0, 0, 0, 1⟩ : S25)] : List (S25))) (inner := [.int .i64 4, .int .i64 0, .int .i64 0, .int .u32 0, .int .u32 0, .int .u32 7, .int .u32 0, .int .u32 0, .int .u32 0, .int .u32 1, .int .i64 3, .int .i64 0, .int .i64 0, .int .u32 0, .int .u32 0, .int .u32 7, .int .u32 0, .int .u32 0, .int .u32 0, .int .u32 2, .int .i64 4, .int .i64 0, .int .i64 0, .int .u32 0, .int .u32 0, .int .u32 7, .int .u32 0, .int .u32 0, .int .u32 0, .int .u32 1]) (ok := fun _ => True) (okp := fun _ => True) ?hr ?hp (fun _ hk => hk) trivial (Below.refl _ _) (Nat.le_refl _) (by simp) ?_; (case hd => rfl); (case hg => rfl); (case hr => first | (go_simp; done) | (go_simp; rfl)); (case hp => exact (Reps.c10 (show Kd.M k25 _ _ _ (⟨4, 0, 0, 0, 0, 7, 0, 0, 0, 1⟩ : S25) [.int .i64 4, .int .i64 0, .int .i64 0, .int .u32 0, .int .u32 0, .int .u32 7, .int .u32 0, .int .u32 0, .int .u32 0, .int .u32 1] from (k25_mkM _ _ _ (⟨4, 0, 0, 0, 0, 7, 0, 0, 0, 1⟩ : S25) )) (Reps.c10 (show Kd.M k25 _ _ _ (⟨3, 0, 0, 0, 0, 7, 0, 0, 0, 2⟩ : S25) [.int .i64 3, .int .i64 0, .int .i64 0, .int .u32 0, .int .u32 0, .int .u32 7, .int .u32 0, .int .u32 0, .int .u32 0, .int .u32 2] from (k25_mkM _ _ _ (⟨3, 0, 0, 0, 0, 7, 0, 0, 0, 2⟩ : S25) )) (Reps.c10 (show Kd.M k25 _ _ _ (⟨4, 0, 0, 0, 0, 7, 0, 0, 0, 1⟩ : S25) [.int .i64 4, .int .i64 0, .int .i64 0, .int .u32 0, .int .u32 0, .int .u32 7, .int .u32 0, .int .u32 0, .int .u32 0, .int .u32 1] from (k25_mkM _ _ _ (⟨4, 0, 0, 0, 0, 7, 0, 0, 0, 1⟩ : S25) )) (Reps.none _ _)))))
            intro v159 w70 ho71 hb hg_ hnew_
            clear hg_ hnew_
            (first | rw [← Ny158.out] at ho71 | (simp only [Int.reduceToNat] at ho71; rw [← Ny158.out] at ho71))
            have n0_ := Aside0.mk (Kd.R_elder' (by (with_reducible repeat (first | apply Kd.R_alloc | apply Kd.R_drewN | apply Kd.R_drew)); exact HO145.out) (Kd.R_base ho71) hb)
            have n1_ := Aside0.mk (Kd.R_elder' (by (with_reducible repeat (first | apply Kd.R_alloc | apply Kd.R_drewN | apply Kd.R_drew)); exact HO148.out) (Kd.R_base ho71) hb)
            have n2_ := Aside0.mk (Kd.R_elder' (by (with_reducible repeat (first | apply Kd.R_alloc | apply Kd.R_drewN | apply Kd.R_drew)); exact HO152.out) (Kd.R_base ho71) hb)
            have n3_ := Aside0.mk (Kd.R_elder' (by (with_reducible repeat (first | apply Kd.R_alloc | apply Kd.R_drewN | apply Kd.R_drew)); exact HO155.out) (Kd.R_base ho71) hb)
            have n4_ := Aside0.mk (Kd.R_elder' (by (with_reducible repeat (first | apply Kd.R_alloc | apply Kd.R_drewN | apply Kd.R_drew)); exact HO166.out) (Kd.R_base ho71) hb)
            have n5_ := Aside0.mk (Kd.R_lower (Kd.R_newB (Kd.R_newB (Kd.R_new' (Kd.R_new' (Kd.R_new' (Kd.R_new' (Kd.R_new' ho71 (Kd.R_lt (by (with_reducible repeat (first | apply Kd.R_alloc | apply Kd.R_drewN | apply Kd.R_drew)); exact HO145.out))) (Kd.R_lt (by (with_reducible repeat (first | apply Kd.R_alloc | apply Kd.R_drewN | apply Kd.R_drew)); exact HO148.out))) (Kd.R_lt (by (with_reducible repeat (first | apply Kd.R_alloc | apply Kd.R_drewN | apply Kd.R_drew)); exact HO152.out))) (Kd.R_lt (by (with_reducible repeat (first | apply Kd.R_alloc | apply Kd.R_drewN | apply Kd.R_drew)); exact HO155.out))) (Kd.R_lt (by (with_reducible repeat (first | apply Kd.R_alloc | apply Kd.R_drewN | apply Kd.R_drew)); exact HO166.out))) (g := gb138) (o := .cells vA0 25 (0, 0)) (by (with_reducible repeat (first | refine blk_drewN ?_ _ | refine blk_drew ?_ | refine blk_alloc ?_ _)); exact BK138.out)) (g := gb139) (o := .cells vA1 25 (0, 0)) (by (with_reducible repeat (first | refine blk_drewN ?_ _ | refine blk_drew ?_ | refine blk_alloc ?_ _)); exact BK139.out)) (below_size (by repeat (first | (with_reducible first | exact HB.out | apply below_alloc | apply pw_below_drewN | apply below_drew1 | refine below_set ?_ GE138.out | refine below_set ?_ GE139.out) | exact HB.out))))
            have n6_ := Aside0.mk (blk_below (g := gb138) (o := .cells vA0 25 (0, 0)) (by (with_reducible repeat (first | refine blk_drewN ?_ _ | refine blk_drew ?_ | refine blk_alloc ?_ _)); exact BK138.out) hb)
            have n7_ := Aside0.mk (blk_below (g := gb139) (o := .cells vA1 25 (0, 0)) (by (with_reducible repeat (first | refine blk_drewN ?_ _ | refine blk_drew ?_ | refine blk_alloc ?_ _)); exact BK139.out) hb)
            have n8_ := Aside0.mk (below_step (by repeat (first | (with_reducible first | exact HB.out | apply below_alloc | apply pw_below_drewN | apply below_drew1 | refine below_set ?_ GE138.out | refine below_set ?_ GE139.out) | exact HB.out)) hb)
            clear HO145
            clear HO148
            clear HO152
            clear HO155
            clear HO166
            clear BK138
            clear BK139
            clear HB
            have HO145 := n0_
            have HO148 := n1_
            have HO152 := n2_
            have HO155 := n3_
            have HO166 := n4_
            have HO160 := n5_
            have BK138 := n6_
            have BK139 := n7_
            have HB := n8_
            clear n0_ n1_ n2_ n3_ n4_ n5_ n6_ n7_ n8_
            clear hb ho71
            refine hK.out _ _ ⟨(blk_cell BK138.out 0).trans rfl, (blk_cell BK138.out 1).trans rfl, (blk_cell BK138.out 2).trans rfl, (blk_cell BK138.out 3).trans rfl, (blk_cell BK138.out 4).trans rfl, (blk_cell BK138.out 5).trans rfl, (blk_cell BK138.out 6).trans rfl, (blk_cell BK138.out 7).trans rfl, (blk_cell BK138.out 8).trans rfl, (blk_cell BK138.out 9).trans rfl, (blk_cell BK139.out 0).trans rfl, (blk_cell BK139.out 1).trans rfl, (blk_cell BK139.out 2).trans rfl, (blk_cell BK139.out 3).trans rfl, (blk_cell BK139.out 4).trans rfl, (blk_cell BK139.out 5).trans rfl, (blk_cell BK139.out 6).trans rfl, (blk_cell BK139.out 7).trans rfl, (blk_cell BK139.out 8).trans rfl, (blk_cell BK139.out 9).trans rfl⟩ (fun hHeld => ?_)
            clear hK K
            refine norm_ (a' := ?_) ?_ ?_
            rotate_left
            ·
             show Act.put _ (some 43) _ = _
             simp only [Act.put, List.setIfInBounds_toArray, List.set_cons_zero, List.set_cons_succ, i64_w, i32_w]
             rfl
            exact norm_ (by first | (simp only [putAll, Act.put, List.setIfInBounds_toArray, List.set_cons_zero, List.set_cons_succ]; done) | (simp only [putAll, Act.put, List.setIfInBounds_toArray, List.set_cons_zero, List.set_cons_succ]; rfl)) (hJ17_19_20_25_28_29_32_38_43 (v144, v147, v151, v154, v159, v165) _ ⟨hHeld, (by (with_reducible repeat (first | apply Kd.R_alloc | apply Kd.R_drewN | apply Kd.R_drew)); exact Kd.R_mono HO145.out (fun _ hk => ⟨hk.1.1, ⟨hk.1.2.1, ⟨hk.1.2.2.1, ⟨hk.2, ⟨hk.1.2.2.2.1, ⟨hk.1.2.2.2.2.1, hk.1.2.2.2.2.2⟩⟩⟩⟩⟩⟩)), (by (with_reducible repeat (first | apply Kd.R_alloc | apply Kd.R_drewN | apply Kd.R_drew)); exact Kd.R_mono HO148.out (fun _ hk => ⟨hk.1.1, ⟨hk.1.2.1, ⟨hk.1.2.2.1, ⟨hk.2, ⟨hk.1.2.2.2.1, ⟨hk.1.2.2.2.2.1, hk.1.2.2.2.2.2⟩⟩⟩⟩⟩⟩)), (by (with_reducible repeat (first | apply Kd.R_alloc | apply Kd.R_drewN | apply Kd.R_drew)); exact Kd.R_mono HO152.out (fun _ hk => ⟨hk.1.1, ⟨hk.1.2.1, ⟨hk.1.2.2.1, ⟨hk.2, ⟨hk.1.2.2.2.1, ⟨hk.1.2.2.2.2.1, hk.1.2.2.2.2.2⟩⟩⟩⟩⟩⟩)), (by (with_reducible repeat (first | apply Kd.R_alloc | apply Kd.R_drewN | apply Kd.R_drew)); exact Kd.R_mono HO155.out (fun _ hk => ⟨hk.1.1, ⟨hk.1.2.1, ⟨hk.1.2.2.1, ⟨hk.2, ⟨hk.1.2.2.2.1, ⟨hk.1.2.2.2.2.1, hk.1.2.2.2.2.2⟩⟩⟩⟩⟩⟩)), (by (with_reducible repeat (first | apply Kd.R_alloc | apply Kd.R_drewN | apply Kd.R_drew)); exact Kd.R_mono HO160.out (fun _ hk => ⟨hk.1.1.1.1.1.1.2, ⟨hk.1.1.1.1.1.2, ⟨hk.1.1.1.1.2, ⟨hk.1.1.1.2, ⟨hk.1.1.2, ⟨hk.1.2, hk.2⟩⟩⟩⟩⟩⟩)), (by (with_reducible repeat (first | apply Kd.R_alloc | apply Kd.R_drewN | apply Kd.R_drew)); exact Kd.R_mono HO166.out (fun _ hk => ⟨hk.1.1, ⟨hk.1.2.1, ⟨hk.1.2.2.1, ⟨hk.1.2.2.2.1, ⟨hk.2, ⟨hk.1.2.2.2.2.1, hk.1.2.2.2.2.2⟩⟩⟩⟩⟩⟩)), (by (with_reducible repeat (first | refine blk_drewN ?_ _ | refine blk_drew ?_ | refine blk_alloc ?_ _)); exact BK138.out), (by (with_reducible repeat (first | refine blk_drewN ?_ _ | refine blk_drew ?_ | refine blk_alloc ?_ _)); exact BK139.out), (by repeat (first | (with_reducible first | exact HB.out | apply below_alloc | apply pw_below_drewN | apply below_drew1 | refine below_set ?_ GE138.out | refine below_set ?_ GE139.out) | exact HB.out))⟩)
          ·
           skip
           rintro ⟨v144, v147, v151, v154, v159⟩ w69 ⟨hS_, h0_, h1_, h2_, h3_, h4_, h5_, h6_, h7_⟩
           have n0_ : Aside0 (Kd.R k25 25 w69 w.heap.size (fun k_ => some k_ ≠ (v147 : Value).ownBlock ∧ some k_ ≠ (v151 : Value).ownBlock ∧ some k_ ≠ (v154 : Value).ownBlock ∧ some k_ ≠ (v159 : Value).ownBlock ∧ k_ ≠ gb138 ∧ k_ ≠ gb139) v144 y143) := ⟨h0_⟩
           have n1_ : Aside0 (Kd.R k25 25 w69 w.heap.size (fun k_ => some k_ ≠ (v144 : Value).ownBlock ∧ some k_ ≠ (v151 : Value).ownBlock ∧ some k_ ≠ (v154 : Value).ownBlock ∧ some k_ ≠ (v159 : Value).ownBlock ∧ k_ ≠ gb138 ∧ k_ ≠ gb139) v147 y146) := ⟨h1_⟩
           have n2_ : Aside0 (Kd.R k25 25 w69 w.heap.size (fun k_ => some k_ ≠ (v144 : Value).ownBlock ∧ some k_ ≠ (v147 : Value).ownBlock ∧ some k_ ≠ (v154 : Value).ownBlock ∧ some k_ ≠ (v159 : Value).ownBlock ∧ k_ ≠ gb138 ∧ k_ ≠ gb139) v151 y150) := ⟨h2_⟩
           have n3_ : Aside0 (Kd.R k25 25 w69 w.heap.size (fun k_ => some k_ ≠ (v144 : Value).ownBlock ∧ some k_ ≠ (v147 : Value).ownBlock ∧ some k_ ≠ (v151 : Value).ownBlock ∧ some k_ ≠ (v159 : Value).ownBlock ∧ k_ ≠ gb138 ∧ k_ ≠ gb139) v154 y153) := ⟨h3_⟩
           have n4_ : Aside0 (Kd.R k25 25 w69 w.heap.size (fun k_ => some k_ ≠ (v144 : Value).ownBlock ∧ some k_ ≠ (v147 : Value).ownBlock ∧ some k_ ≠ (v151 : Value).ownBlock ∧ some k_ ≠ (v154 : Value).ownBlock ∧ k_ ≠ gb138 ∧ k_ ≠ gb139) v159 y158) := ⟨h4_⟩
           have n5_ : Aside0 (w69.heap[gb138]? = some (.cells vA0 25 (0, 0))) := ⟨h5_⟩
           have n6_ : Aside0 (w69.heap[gb139]? = some (.cells vA1 25 (0, 0))) := ⟨h6_⟩
           have n7_ : Aside0 (Below w.heap.size w w69) := ⟨h7_⟩
           clear BK138
           clear BK139
           clear HB
           clear h0_ h1_ h2_ h3_ h4_ h5_ h6_ h7_
           have HO145 := n0_
           have HO148 := n1_
           have HO152 := n2_
           have HO155 := n3_
           have HO160 := n4_
           have BK138 := n5_
           have BK139 := n6_
           have HB := n7_
           clear n0_ n1_ n2_ n3_ n4_ n5_ n6_ n7_
           have hHeld : w69.cell? ⟨gb138, 0, none⟩ = some (.int .i64 4) ∧ w69.cell? ⟨gb138, 1, none⟩ = some (.int .i64 0) ∧ w69.cell? ⟨gb138, 2, none⟩ = some (.int .i64 0) ∧ w69.cell? ⟨gb138, 3, none⟩ = some (.int .u32 0) ∧ w69.cell? ⟨gb138, 4, none⟩ = some (.int .u32 0) ∧ w69.cell? ⟨gb138, 5, none⟩ = some (.int .u32 7) ∧ w69.cell? ⟨gb138, 6, none⟩ = some (.int .u32 0) ∧ w69.cell? ⟨gb138, 7, none⟩ = some (.int .u32 0) ∧ w69.cell? ⟨gb138, 8, none⟩ = some (.int .u32 0) ∧ w69.cell? ⟨gb138, 9, none⟩ = some (.int .u32 1) ∧ w69.cell? ⟨gb139, 0, none⟩ = some (.int .i64 3) ∧ w69.cell? ⟨gb139, 1, none⟩ = some (.int .i64 0) ∧ w69.cell? ⟨gb139, 2, none⟩ = some (.int .i64 0) ∧ w69.cell? ⟨gb139, 3, none⟩ = some (.int .u32 0) ∧ w69.cell? ⟨gb139, 4, none⟩ = some (.int .u32 0) ∧ w69.cell? ⟨gb139, 5, none⟩ = some (.int .u32 7) ∧ w69.cell? ⟨gb139, 6, none⟩ = some (.int .u32 0) ∧ w69.cell? ⟨gb139, 7, none⟩ = some (.int .u32 0) ∧ w69.cell? ⟨gb139, 8, none⟩ = some (.int .u32 0) ∧ w69.cell? ⟨gb139, 9, none⟩ = some (.int .u32 2) := hS_
           obtain ⟨Ao70, co70, eo70⟩ := Kd.R_slice HO160.out
           (first | subst eo70 | (injection eo70 with f1_ f2_ f3_; have f4_ := f1_.symm; have f5_ := f3_.symm; clear f1_ f2_ f3_; subst f4_; subst f5_))
           refine norm_ (a' := ?_) ?_ ?_
           rotate_left
           ·
            simp only [putAll, Act.put, List.setIfInBounds_toArray, List.set_cons_zero, List.set_cons_succ]
            rfl
           refine two_ (i := 40) (j := 43) (Ni := some 45) (Nj := some 48) #[Y,Y,Y,Y,Y,Y,Y,Y,Y,Y,Y,Y,Y,Y,Y,Y,Y,Y,Y,Y,Y,Y,Y,Y,Y,Y,Y,Y,Y,Y,Y,Y,Y,Y,Y,Y,Y,Y,Y,Y,Y,Y,Y,Z,Z,Z,Z] #[Y,Y,Y,Y,Y,Y,Y,Y,Y,Y,Y,Y,Y,Y,Y,Y,Y,Y,Y,Y,Y,Y,Y,Y,Y,Y,Y,Y,Y,Y,Y,Y,Y,Y,Y,Y,Y,Y,Y,Y,Z,Y,Y,Y,Z,Z,Z] rfl rfl rfl rfl (two_of HT_.out (by kernel_rfl)) (by decide) (by decide) (fun K hK => ?_) (fun K hK => ?_)
           ·
            skip
            refine goes_ Try.func13 (by kernel_rfl) rfl #[.slice Ao70 y158.length co70, .agg vA0, .int .i64 1] (by rfl) rfl rfl (by (try simp only [List.map_toArray, List.map_cons, List.map_nil]); first | done | rfl | (simp only [List.length_drop, List.length_take]; rfl)) ?_
            with_reducible refine (log_Select.calls k _ _ y158 4 0 0 0 0 7 0 0 0 1 1 t161 _ ?side1 ?side2 A40.out).mono ?_
            (case side1 => repeat (first | exact (Kd.R_reads' HO160.out).2.2 | (with_reducible refine Kd.C_alloc ?_ _) | (with_reducible refine Kd.C_drewN ?_ _) | (with_reducible refine Kd.C_drew ?_)))
            (case side2 => exact (Kd.R_reads' HO160.out).2.1)
            rintro e w71 ⟨v162, rfl, ho0, hb⟩
            refine ⟨_, rfl, ?_⟩
            have n0_ := Aside0.mk (Kd.R_elder' (by (with_reducible repeat (first | apply Kd.R_alloc | apply Kd.R_drewN | apply Kd.R_drew)); exact HO145.out) (Kd.R_base ho0) hb)
            have n1_ := Aside0.mk (Kd.R_elder' (by (with_reducible repeat (first | apply Kd.R_alloc | apply Kd.R_drewN | apply Kd.R_drew)); exact HO148.out) (Kd.R_base ho0) hb)
            have n2_ := Aside0.mk (Kd.R_elder' (by (with_reducible repeat (first | apply Kd.R_alloc | apply Kd.R_drewN | apply Kd.R_drew)); exact HO152.out) (Kd.R_base ho0) hb)
            have n3_ := Aside0.mk (Kd.R_elder' (by (with_reducible repeat (first | apply Kd.R_alloc | apply Kd.R_drewN | apply Kd.R_drew)); exact HO155.out) (Kd.R_base ho0) hb)
            have n4_ := Aside0.mk (Kd.R_elder' (by (with_reducible repeat (first | apply Kd.R_alloc | apply Kd.R_drewN | apply Kd.R_drew)); exact HO160.out) (Kd.R_base ho0) hb)
            have n5_ := Aside0.mk (Kd.R_lower (Kd.R_newB (Kd.R_newB (Kd.R_new' (Kd.R_new' (Kd.R_new' (Kd.R_new' (Kd.R_new' ho0 (Kd.R_lt (by (with_reducible repeat (first | apply Kd.R_alloc | apply Kd.R_drewN | apply Kd.R_drew)); exact HO145.out))) (Kd.R_lt (by (with_reducible repeat (first | apply Kd.R_alloc | apply Kd.R_drewN | apply Kd.R_drew)); exact HO148.out))) (Kd.R_lt (by (with_reducible repeat (first | apply Kd.R_alloc | apply Kd.R_drewN | apply Kd.R_drew)); exact HO152.out))) (Kd.R_lt (by (with_reducible repeat (first | apply Kd.R_alloc | apply Kd.R_drewN | apply Kd.R_drew)); exact HO155.out))) (Kd.R_lt (by (with_reducible repeat (first | apply Kd.R_alloc | apply Kd.R_drewN | apply Kd.R_drew)); exact HO160.out))) (g := gb138) (o := .cells vA0 25 (0, 0)) (by (with_reducible repeat (first | refine blk_drewN ?_ _ | refine blk_drew ?_ | refine blk_alloc ?_ _)); exact BK138.out)) (g := gb139) (o := .cells vA1 25 (0, 0)) (by (with_reducible repeat (first | refine blk_drewN ?_ _ | refine blk_drew ?_ | refine blk_alloc ?_ _)); exact BK139.out)) (below_size (by repeat (first | (with_reducible first | exact HB.out | apply below_alloc | apply pw_below_drewN | apply below_drew1 | refine below_set ?_ GE138.out | refine below_set ?_ GE139.out) | exact HB.out))))
            have n6_ := Aside0.mk (blk_below (g := gb138) (o := .cells vA0 25 (0, 0)) (by (with_reducible repeat (first | refine blk_drewN ?_ _ | refine blk_drew ?_ | refine blk_alloc ?_ _)); exact BK138.out) hb)
            have n7_ := Aside0.mk (blk_below (g := gb139) (o := .cells vA1 25 (0, 0)) (by (with_reducible repeat (first | refine blk_drewN ?_ _ | refine blk_drew ?_ | refine blk_alloc ?_ _)); exact BK139.out) hb)
            have n8_ := Aside0.mk (below_step (by repeat (first | (with_reducible first | exact HB.out | apply below_alloc | apply pw_below_drewN | apply below_drew1 | refine below_set ?_ GE138.out | refine below_set ?_ GE139.out) | exact HB.out)) hb)
            clear HO145
            clear HO148
            clear HO152
            clear HO155
            clear HO160
            clear BK138
            clear BK139
            clear HB
            have HO145 := n0_
            have HO148 := n1_
            have HO152 := n2_
            have HO155 := n3_
            have HO160 := n4_
            have HO163 := n5_
            have BK138 := n6_
            have BK139 := n7_
            have HB := n8_
            clear n0_ n1_ n2_ n3_ n4_ n5_ n6_ n7_ n8_
            (try clear hb)
            (try clear hb2)
            (try clear hk)
            (try clear hi)
            (try clear ho0)
            refine hK.out _ _ ⟨(blk_cell BK138.out 0).trans rfl, (blk_cell BK138.out 1).trans rfl, (blk_cell BK138.out 2).trans rfl, (blk_cell BK138.out 3).trans rfl, (blk_cell BK138.out 4).trans rfl, (blk_cell BK138.out 5).trans rfl, (blk_cell BK138.out 6).trans rfl, (blk_cell BK138.out 7).trans rfl, (blk_cell BK138.out 8).trans rfl, (blk_cell BK138.out 9).trans rfl, (blk_cell BK139.out 0).trans rfl, (blk_cell BK139.out 1).trans rfl, (blk_cell BK139.out 2).trans rfl, (blk_cell BK139.out 3).trans rfl, (blk_cell BK139.out 4).trans rfl, (blk_cell BK139.out 5).trans rfl, (blk_cell BK139.out 6).trans rfl, (blk_cell BK139.out 7).trans rfl, (blk_cell BK139.out 8).trans rfl, (blk_cell BK139.out 9).trans rfl⟩ (fun hHeld => ?_)
            clear hK K
            refine norm_ (a' := ?_) ?_ ?_
            rotate_left
            ·
             show Act.put _ (some 45) _ = _
             simp only [Act.put, List.setIfInBounds_toArray, List.set_cons_zero, List.set_cons_succ, i64_w, i32_w]
             rfl
            exact norm_ (by first | (simp only [putAll, Act.put, List.setIfInBounds_toArray, List.set_cons_zero, List.set_cons_succ]; done) | (simp only [putAll, Act.put, List.setIfInBounds_toArray, List.set_cons_zero, List.set_cons_succ]; rfl)) (hJ17_19_20_25_28_29_32_38_40 (v144, v147, v151, v154, .slice Ao70 y158.length co70, v162) _ ⟨hHeld, (by (with_reducible repeat (first | apply Kd.R_alloc | apply Kd.R_drewN | apply Kd.R_drew)); exact Kd.R_mono HO145.out (fun _ hk => ⟨hk.1.1, ⟨hk.1.2.1, ⟨hk.1.2.2.1, ⟨hk.1.2.2.2.1, ⟨hk.2, ⟨hk.1.2.2.2.2.1, hk.1.2.2.2.2.2⟩⟩⟩⟩⟩⟩)), (by (with_reducible repeat (first | apply Kd.R_alloc | apply Kd.R_drewN | apply Kd.R_drew)); exact Kd.R_mono HO148.out (fun _ hk => ⟨hk.1.1, ⟨hk.1.2.1, ⟨hk.1.2.2.1, ⟨hk.1.2.2.2.1, ⟨hk.2, ⟨hk.1.2.2.2.2.1, hk.1.2.2.2.2.2⟩⟩⟩⟩⟩⟩)), (by (with_reducible repeat (first | apply Kd.R_alloc | apply Kd.R_drewN | apply Kd.R_drew)); exact Kd.R_mono HO152.out (fun _ hk => ⟨hk.1.1, ⟨hk.1.2.1, ⟨hk.1.2.2.1, ⟨hk.1.2.2.2.1, ⟨hk.2, ⟨hk.1.2.2.2.2.1, hk.1.2.2.2.2.2⟩⟩⟩⟩⟩⟩)), (by (with_reducible repeat (first | apply Kd.R_alloc | apply Kd.R_drewN | apply Kd.R_drew)); exact Kd.R_mono HO155.out (fun _ hk => ⟨hk.1.1, ⟨hk.1.2.1, ⟨hk.1.2.2.1, ⟨hk.1.2.2.2.1, ⟨hk.2, ⟨hk.1.2.2.2.2.1, hk.1.2.2.2.2.2⟩⟩⟩⟩⟩⟩)), (by (with_reducible repeat (first | apply Kd.R_alloc | apply Kd.R_drewN | apply Kd.R_drew)); exact Kd.R_mono HO160.out (fun _ hk => ⟨hk.1.1, ⟨hk.1.2.1, ⟨hk.1.2.2.1, ⟨hk.1.2.2.2.1, ⟨hk.2, ⟨hk.1.2.2.2.2.1, hk.1.2.2.2.2.2⟩⟩⟩⟩⟩⟩)), (by (with_reducible repeat (first | apply Kd.R_alloc | apply Kd.R_drewN | apply Kd.R_drew)); exact Kd.R_mono HO163.out (fun _ hk => ⟨hk.1.1.1.1.1.1.2, ⟨hk.1.1.1.1.1.2, ⟨hk.1.1.1.1.2, ⟨hk.1.1.1.2, ⟨hk.1.1.2, ⟨hk.1.2, hk.2⟩⟩⟩⟩⟩⟩)), (by (with_reducible repeat (first | refine blk_drewN ?_ _ | refine blk_drew ?_ | refine blk_alloc ?_ _)); exact BK138.out), (by (with_reducible repeat (first | refine blk_drewN ?_ _ | refine blk_drew ?_ | refine blk_alloc ?_ _)); exact BK139.out), (by repeat (first | (with_reducible first | exact HB.out | apply below_alloc | apply pw_below_drewN | apply below_drew1 | refine below_set ?_ GE138.out | refine below_set ?_ GE139.out) | exact HB.out))⟩)
           ·
            skip
            refine Kd.R_lit_step k25 _ 25 ?hg (N := 48) ?hd (xs := ([(⟨4, 0, 0, 0, 0, 7, 0, 0, 0, 1⟩ : S25), (⟨4, 0, 0, 0, 0, 7, 0, 0, 0, 1⟩ : S25)] : List (S25))) (inner := [.int .i64 4, .int .i64 0, .int .i64 0, .int .u32 0, .int .u32 0, .int .u32 7, .int .u32 0, .int .u32 0, .int .u32 0, .int .u32 1, .int .i64 4, .int .i64 0, .int .i64 0, .int .u32 0, .int .u32 0, .int .u32 7, .int .u32 0, .int .u32 0, .int .u32 0, .int .u32 1]) (ok := fun _ => True) (okp := fun _ => True) ?hr ?hp (fun _ hk => hk) trivial (Below.refl _ _) (Nat.le_refl _) (by simp) ?_; (case hd => rfl); (case hg => rfl); (case hr => first | (go_simp; done) | (go_simp; rfl)); (case hp => exact (Reps.c10 (show Kd.M k25 _ _ _ (⟨4, 0, 0, 0, 0, 7, 0, 0, 0, 1⟩ : S25) [.int .i64 4, .int .i64 0, .int .i64 0, .int .u32 0, .int .u32 0, .int .u32 7, .int .u32 0, .int .u32 0, .int .u32 0, .int .u32 1] from (k25_mkM _ _ _ (⟨4, 0, 0, 0, 0, 7, 0, 0, 0, 1⟩ : S25) )) (Reps.c10 (show Kd.M k25 _ _ _ (⟨4, 0, 0, 0, 0, 7, 0, 0, 0, 1⟩ : S25) [.int .i64 4, .int .i64 0, .int .i64 0, .int .u32 0, .int .u32 0, .int .u32 7, .int .u32 0, .int .u32 0, .int .u32 0, .int .u32 1] from (k25_mkM _ _ _ (⟨4, 0, 0, 0, 0, 7, 0, 0, 0, 1⟩ : S25) )) (Reps.none _ _))))
            intro v165 w70 ho71 hb hg_ hnew_
            clear hg_ hnew_
            (first | rw [← Ny164.out] at ho71 | (simp only [Int.reduceToNat] at ho71; rw [← Ny164.out] at ho71))
            have n0_ := Aside0.mk (Kd.R_elder' (by (with_reducible repeat (first | apply Kd.R_alloc | apply Kd.R_drewN | apply Kd.R_drew)); exact HO145.out) (Kd.R_base ho71) hb)
            have n1_ := Aside0.mk (Kd.R_elder' (by (with_reducible repeat (first | apply Kd.R_alloc | apply Kd.R_drewN | apply Kd.R_drew)); exact HO148.out) (Kd.R_base ho71) hb)
            have n2_ := Aside0.mk (Kd.R_elder' (by (with_reducible repeat (first | apply Kd.R_alloc | apply Kd.R_drewN | apply Kd.R_drew)); exact HO152.out) (Kd.R_base ho71) hb)
            have n3_ := Aside0.mk (Kd.R_elder' (by (with_reducible repeat (first | apply Kd.R_alloc | apply Kd.R_drewN | apply Kd.R_drew)); exact HO155.out) (Kd.R_base ho71) hb)
            have n4_ := Aside0.mk (Kd.R_elder' (by (with_reducible repeat (first | apply Kd.R_alloc | apply Kd.R_drewN | apply Kd.R_drew)); exact HO160.out) (Kd.R_base ho71) hb)
            have n5_ := Aside0.mk (Kd.R_lower (Kd.R_newB (Kd.R_newB (Kd.R_new' (Kd.R_new' (Kd.R_new' (Kd.R_new' (Kd.R_new' ho71 (Kd.R_lt (by (with_reducible repeat (first | apply Kd.R_alloc | apply Kd.R_drewN | apply Kd.R_drew)); exact HO145.out))) (Kd.R_lt (by (with_reducible repeat (first | apply Kd.R_alloc | apply Kd.R_drewN | apply Kd.R_drew)); exact HO148.out))) (Kd.R_lt (by (with_reducible repeat (first | apply Kd.R_alloc | apply Kd.R_drewN | apply Kd.R_drew)); exact HO152.out))) (Kd.R_lt (by (with_reducible repeat (first | apply Kd.R_alloc | apply Kd.R_drewN | apply Kd.R_drew)); exact HO155.out))) (Kd.R_lt (by (with_reducible repeat (first | apply Kd.R_alloc | apply Kd.R_drewN | apply Kd.R_drew)); exact HO160.out))) (g := gb138) (o := .cells vA0 25 (0, 0)) (by (with_reducible repeat (first | refine blk_drewN ?_ _ | refine blk_drew ?_ | refine blk_alloc ?_ _)); exact BK138.out)) (g := gb139) (o := .cells vA1 25 (0, 0)) (by (with_reducible repeat (first | refine blk_drewN ?_ _ | refine blk_drew ?_ | refine blk_alloc ?_ _)); exact BK139.out)) (below_size (by repeat (first | (with_reducible first | exact HB.out | apply below_alloc | apply pw_below_drewN | apply below_drew1 | refine below_set ?_ GE138.out | refine below_set ?_ GE139.out) | exact HB.out))))
            have n6_ := Aside0.mk (blk_below (g := gb138) (o := .cells vA0 25 (0, 0)) (by (with_reducible repeat (first | refine blk_drewN ?_ _ | refine blk_drew ?_ | refine blk_alloc ?_ _)); exact BK138.out) hb)
            have n7_ := Aside0.mk (blk_below (g := gb139) (o := .cells vA1 25 (0, 0)) (by (with_reducible repeat (first | refine blk_drewN ?_ _ | refine blk_drew ?_ | refine blk_alloc ?_ _)); exact BK139.out) hb)
            have n8_ := Aside0.mk (below_step (by repeat (first | (with_reducible first | exact HB.out | apply below_alloc | apply pw_below_drewN | apply below_drew1 | refine below_set ?_ GE138.out | refine below_set ?_ GE139.out) | exact HB.out)) hb)
            clear HO145
            clear HO148
            clear HO152
            clear HO155
            clear HO160
            clear BK138
            clear BK139
            clear HB
            have HO145 := n0_
            have HO148 := n1_
            have HO152 := n2_
            have HO155 := n3_
            have HO160 := n4_
            have HO166 := n5_
            have BK138 := n6_
            have BK139 := n7_
            have HB := n8_
            clear n0_ n1_ n2_ n3_ n4_ n5_ n6_ n7_ n8_
            clear hb ho71
            refine hK.out _ _ ⟨(blk_cell BK138.out 0).trans rfl, (blk_cell BK138.out 1).trans rfl, (blk_cell BK138.out 2).trans rfl, (blk_cell BK138.out 3).trans rfl, (blk_cell BK138.out 4).trans rfl, (blk_cell BK138.out 5).trans rfl, (blk_cell BK138.out 6).trans rfl, (blk_cell BK138.out 7).trans rfl, (blk_cell BK138.out 8).trans rfl, (blk_cell BK138.out 9).trans rfl, (blk_cell BK139.out 0).trans rfl, (blk_cell BK139.out 1).trans rfl, (blk_cell BK139.out 2).trans rfl, (blk_cell BK139.out 3).trans rfl, (blk_cell BK139.out 4).trans rfl, (blk_cell BK139.out 5).trans rfl, (blk_cell BK139.out 6).trans rfl, (blk_cell BK139.out 7).trans rfl, (blk_cell BK139.out 8).trans rfl, (blk_cell BK139.out 9).trans rfl⟩ (fun hHeld => ?_)
            clear hK K
            refine norm_ (a' := ?_) ?_ ?_
            rotate_left
            ·
             show Act.put _ (some 48) _ = _
             simp only [Act.put, List.setIfInBounds_toArray, List.set_cons_zero, List.set_cons_succ, i64_w, i32_w]
             rfl
            exact norm_ (by first | (simp only [putAll, Act.put, List.setIfInBounds_toArray, List.set_cons_zero, List.set_cons_succ]; done) | (simp only [putAll, Act.put, List.setIfInBounds_toArray, List.set_cons_zero, List.set_cons_succ]; rfl)) (hJ17_19_20_25_28_29_32_38_43 (v144, v147, v151, v154, .slice Ao70 y158.length co70, v165) _ ⟨hHeld, (by (with_reducible repeat (first | apply Kd.R_alloc | apply Kd.R_drewN | apply Kd.R_drew)); exact Kd.R_mono HO145.out (fun _ hk => ⟨hk.1.1, ⟨hk.1.2.1, ⟨hk.1.2.2.1, ⟨hk.1.2.2.2.1, ⟨hk.2, ⟨hk.1.2.2.2.2.1, hk.1.2.2.2.2.2⟩⟩⟩⟩⟩⟩)), (by (with_reducible repeat (first | apply Kd.R_alloc | apply Kd.R_drewN | apply Kd.R_drew)); exact Kd.R_mono HO148.out (fun _ hk => ⟨hk.1.1, ⟨hk.1.2.1, ⟨hk.1.2.2.1, ⟨hk.1.2.2.2.1, ⟨hk.2, ⟨hk.1.2.2.2.2.1, hk.1.2.2.2.2.2⟩⟩⟩⟩⟩⟩)), (by (with_reducible repeat (first | apply Kd.R_alloc | apply Kd.R_drewN | apply Kd.R_drew)); exact Kd.R_mono HO152.out (fun _ hk => ⟨hk.1.1, ⟨hk.1.2.1, ⟨hk.1.2.2.1, ⟨hk.1.2.2.2.1, ⟨hk.2, ⟨hk.1.2.2.2.2.1, hk.1.2.2.2.2.2⟩⟩⟩⟩⟩⟩)), (by (with_reducible repeat (first | apply Kd.R_alloc | apply Kd.R_drewN | apply Kd.R_drew)); exact Kd.R_mono HO155.out (fun _ hk => ⟨hk.1.1, ⟨hk.1.2.1, ⟨hk.1.2.2.1, ⟨hk.1.2.2.2.1, ⟨hk.2, ⟨hk.1.2.2.2.2.1, hk.1.2.2.2.2.2⟩⟩⟩⟩⟩⟩)), (by (with_reducible repeat (first | apply Kd.R_alloc | apply Kd.R_drewN | apply Kd.R_drew)); exact Kd.R_mono HO160.out (fun _ hk => ⟨hk.1.1, ⟨hk.1.2.1, ⟨hk.1.2.2.1, ⟨hk.1.2.2.2.1, ⟨hk.2, ⟨hk.1.2.2.2.2.1, hk.1.2.2.2.2.2⟩⟩⟩⟩⟩⟩)), (by (with_reducible repeat (first | apply Kd.R_alloc | apply Kd.R_drewN | apply Kd.R_drew)); exact Kd.R_mono HO166.out (fun _ hk => ⟨hk.1.1.1.1.1.1.2, ⟨hk.1.1.1.1.1.2, ⟨hk.1.1.1.1.2, ⟨hk.1.1.1.2, ⟨hk.1.1.2, ⟨hk.1.2, hk.2⟩⟩⟩⟩⟩⟩)), (by (with_reducible repeat (first | refine blk_drewN ?_ _ | refine blk_drew ?_ | refine blk_alloc ?_ _)); exact BK138.out), (by (with_reducible repeat (first | refine blk_drewN ?_ _ | refine blk_drew ?_ | refine blk_alloc ?_ _)); exact BK139.out), (by repeat (first | (with_reducible first | exact HB.out | apply below_alloc | apply pw_below_drewN | apply below_drew1 | refine below_set ?_ GE138.out | refine below_set ?_ GE139.out) | exact HB.out))⟩)
         ·
          skip
          rintro ⟨v144, v147, v151, v154, v159, v165⟩ w71 ⟨hS_, h0_, h1_, h2_, h3_, h4_, h5_, h6_, h7_, h8_⟩
          have n0_ : Aside0 (Kd.R k25 25 w71 w.heap.size (fun k_ => some k_ ≠ (v147 : Value).ownBlock ∧ some k_ ≠ (v151 : Value).ownBlock ∧ some k_ ≠ (v154 : Value).ownBlock ∧ some k_ ≠ (v159 : Value).ownBlock ∧ some k_ ≠ (v165 : Value).ownBlock ∧ k_ ≠ gb138 ∧ k_ ≠ gb139) v144 y143) := ⟨h0_⟩
          have n1_ : Aside0 (Kd.R k25 25 w71 w.heap.size (fun k_ => some k_ ≠ (v144 : Value).ownBlock ∧ some k_ ≠ (v151 : Value).ownBlock ∧ some k_ ≠ (v154 : Value).ownBlock ∧ some k_ ≠ (v159 : Value).ownBlock ∧ some k_ ≠ (v165 : Value).ownBlock ∧ k_ ≠ gb138 ∧ k_ ≠ gb139) v147 y146) := ⟨h1_⟩
          have n2_ : Aside0 (Kd.R k25 25 w71 w.heap.size (fun k_ => some k_ ≠ (v144 : Value).ownBlock ∧ some k_ ≠ (v147 : Value).ownBlock ∧ some k_ ≠ (v154 : Value).ownBlock ∧ some k_ ≠ (v159 : Value).ownBlock ∧ some k_ ≠ (v165 : Value).ownBlock ∧ k_ ≠ gb138 ∧ k_ ≠ gb139) v151 y150) := ⟨h2_⟩
          have n3_ : Aside0 (Kd.R k25 25 w71 w.heap.size (fun k_ => some k_ ≠ (v144 : Value).ownBlock ∧ some k_ ≠ (v147 : Value).ownBlock ∧ some k_ ≠ (v151 : Value).ownBlock ∧ some k_ ≠ (v159 : Value).ownBlock ∧ some k_ ≠ (v165 : Value).ownBlock ∧ k_ ≠ gb138 ∧ k_ ≠ gb139) v154 y153) := ⟨h3_⟩
          have n4_ : Aside0 (Kd.R k25 25 w71 w.heap.size (fun k_ => some k_ ≠ (v144 : Value).ownBlock ∧ some k_ ≠ (v147 : Value).ownBlock ∧ some k_ ≠ (v151 : Value).ownBlock ∧ some k_ ≠ (v154 : Value).ownBlock ∧ some k_ ≠ (v165 : Value).ownBlock ∧ k_ ≠ gb138 ∧ k_ ≠ gb139) v159 y158) := ⟨h4_⟩
          have n5_ : Aside0 (Kd.R k25 25 w71 w.heap.size (fun k_ => some k_ ≠ (v144 : Value).ownBlock ∧ some k_ ≠ (v147 : Value).ownBlock ∧ some k_ ≠ (v151 : Value).ownBlock ∧ some k_ ≠ (v154 : Value).ownBlock ∧ some k_ ≠ (v159 : Value).ownBlock ∧ k_ ≠ gb138 ∧ k_ ≠ gb139) v165 y164) := ⟨h5_⟩
          have n6_ : Aside0 (w71.heap[gb138]? = some (.cells vA0 25 (0, 0))) := ⟨h6_⟩
          have n7_ : Aside0 (w71.heap[gb139]? = some (.cells vA1 25 (0, 0))) := ⟨h7_⟩
          have n8_ : Aside0 (Below w.heap.size w w71) := ⟨h8_⟩
          clear BK138
          clear BK139
          clear HB
          clear h0_ h1_ h2_ h3_ h4_ h5_ h6_ h7_ h8_
          have HO145 := n0_
          have HO148 := n1_
          have HO152 := n2_
          have HO155 := n3_
          have HO160 := n4_
          have HO166 := n5_
          have BK138 := n6_
          have BK139 := n7_
          have HB := n8_
          clear n0_ n1_ n2_ n3_ n4_ n5_ n6_ n7_ n8_
          have hHeld : w71.cell? ⟨gb138, 0, none⟩ = some (.int .i64 4) ∧ w71.cell? ⟨gb138, 1, none⟩ = some (.int .i64 0) ∧ w71.cell? ⟨gb138, 2, none⟩ = some (.int .i64 0) ∧ w71.cell? ⟨gb138, 3, none⟩ = some (.int .u32 0) ∧ w71.cell? ⟨gb138, 4, none⟩ = some (.int .u32 0) ∧ w71.cell? ⟨gb138, 5, none⟩ = some (.int .u32 7) ∧ w71.cell? ⟨gb138, 6, none⟩ = some (.int .u32 0) ∧ w71.cell? ⟨gb138, 7, none⟩ = some (.int .u32 0) ∧ w71.cell? ⟨gb138, 8, none⟩ = some (.int .u32 0) ∧ w71.cell? ⟨gb138, 9, none⟩ = some (.int .u32 1) ∧ w71.cell? ⟨gb139, 0, none⟩ = some (.int .i64 3) ∧ w71.cell? ⟨gb139, 1, none⟩ = some (.int .i64 0) ∧ w71.cell? ⟨gb139, 2, none⟩ = some (.int .i64 0) ∧ w71.cell? ⟨gb139, 3, none⟩ = some (.int .u32 0) ∧ w71.cell? ⟨gb139, 4, none⟩ = some (.int .u32 0) ∧ w71.cell? ⟨gb139, 5, none⟩ = some (.int .u32 7) ∧ w71.cell? ⟨gb139, 6, none⟩ = some (.int .u32 0) ∧ w71.cell? ⟨gb139, 7, none⟩ = some (.int .u32 0) ∧ w71.cell? ⟨gb139, 8, none⟩ = some (.int .u32 0) ∧ w71.cell? ⟨gb139, 9, none⟩ = some (.int .u32 2) := hS_
          obtain ⟨Ao72, co72, eo72⟩ := Kd.R_slice HO160.out
          (first | subst eo72 | (injection eo72 with f1_ f2_ f3_; have f4_ := f1_.symm; have f5_ := f3_.symm; clear f1_ f2_ f3_; subst f4_; subst f5_))
          refine norm_ (a' := ?_) ?_ ?_
          rotate_left
          ·
           simp only [putAll, Act.put, List.setIfInBounds_toArray, List.set_cons_zero, List.set_cons_succ]
           rfl
          refine one_ (i := 40) (N := some 45) #[Y,Y,Y,Y,Y,Y,Y,Y,Y,Y,Y,Y,Y,Y,Y,Y,Y,Y,Y,Y,Y,Y,Y,Y,Y,Y,Y,Y,Y,Y,Y,Y,Y,Y,Y,Y,Y,Y,Y,Y,Y,Y,Y,Y,Z,Z,Z] rfl rfl (one_of HT_.out (by kernel_rfl)) (by decide) (fun K hK => ?_)
          refine goes_ Try.func13 (by kernel_rfl) rfl #[.slice Ao72 y158.length co72, .agg vA0, .int .i64 1] (by rfl) rfl rfl (by (try simp only [List.map_toArray, List.map_cons, List.map_nil]); first | done | rfl | (simp only [List.length_drop, List.length_take]; rfl)) ?_
          with_reducible refine (log_Select.calls k _ _ y158 4 0 0 0 0 7 0 0 0 1 1 t161 _ ?side1 ?side2 A40.out).mono ?_
          (case side1 => repeat (first | exact (Kd.R_reads' HO160.out).2.2 | (with_reducible refine Kd.C_alloc ?_ _) | (with_reducible refine Kd.C_drewN ?_ _) | (with_reducible refine Kd.C_drew ?_)))
          (case side2 => exact (Kd.R_reads' HO160.out).2.1)
          rintro e w73 ⟨v162, rfl, ho0, hb⟩
          refine ⟨_, rfl, ?_⟩
          have n0_ := Aside0.mk (Kd.R_elder' (by (with_reducible repeat (first | apply Kd.R_alloc | apply Kd.R_drewN | apply Kd.R_drew)); exact HO145.out) (Kd.R_base ho0) hb)
          have n1_ := Aside0.mk (Kd.R_elder' (by (with_reducible repeat (first | apply Kd.R_alloc | apply Kd.R_drewN | apply Kd.R_drew)); exact HO148.out) (Kd.R_base ho0) hb)
          have n2_ := Aside0.mk (Kd.R_elder' (by (with_reducible repeat (first | apply Kd.R_alloc | apply Kd.R_drewN | apply Kd.R_drew)); exact HO152.out) (Kd.R_base ho0) hb)
          have n3_ := Aside0.mk (Kd.R_elder' (by (with_reducible repeat (first | apply Kd.R_alloc | apply Kd.R_drewN | apply Kd.R_drew)); exact HO155.out) (Kd.R_base ho0) hb)
          have n4_ := Aside0.mk (Kd.R_elder' (by (with_reducible repeat (first | apply Kd.R_alloc | apply Kd.R_drewN | apply Kd.R_drew)); exact HO160.out) (Kd.R_base ho0) hb)
          have n5_ := Aside0.mk (Kd.R_elder' (by (with_reducible repeat (first | apply Kd.R_alloc | apply Kd.R_drewN | apply Kd.R_drew)); exact HO166.out) (Kd.R_base ho0) hb)
          have n6_ := Aside0.mk (Kd.R_lower (Kd.R_newB (Kd.R_newB (Kd.R_new' (Kd.R_new' (Kd.R_new' (Kd.R_new' (Kd.R_new' (Kd.R_new' ho0 (Kd.R_lt (by (with_reducible repeat (first | apply Kd.R_alloc | apply Kd.R_drewN | apply Kd.R_drew)); exact HO145.out))) (Kd.R_lt (by (with_reducible repeat (first | apply Kd.R_alloc | apply Kd.R_drewN | apply Kd.R_drew)); exact HO148.out))) (Kd.R_lt (by (with_reducible repeat (first | apply Kd.R_alloc | apply Kd.R_drewN | apply Kd.R_drew)); exact HO152.out))) (Kd.R_lt (by (with_reducible repeat (first | apply Kd.R_alloc | apply Kd.R_drewN | apply Kd.R_drew)); exact HO155.out))) (Kd.R_lt (by (with_reducible repeat (first | apply Kd.R_alloc | apply Kd.R_drewN | apply Kd.R_drew)); exact HO160.out))) (Kd.R_lt (by (with_reducible repeat (first | apply Kd.R_alloc | apply Kd.R_drewN | apply Kd.R_drew)); exact HO166.out))) (g := gb138) (o := .cells vA0 25 (0, 0)) (by (with_reducible repeat (first | refine blk_drewN ?_ _ | refine blk_drew ?_ | refine blk_alloc ?_ _)); exact BK138.out)) (g := gb139) (o := .cells vA1 25 (0, 0)) (by (with_reducible repeat (first | refine blk_drewN ?_ _ | refine blk_drew ?_ | refine blk_alloc ?_ _)); exact BK139.out)) (below_size (by repeat (first | (with_reducible first | exact HB.out | apply below_alloc | apply pw_below_drewN | apply below_drew1 | refine below_set ?_ GE138.out | refine below_set ?_ GE139.out) | exact HB.out))))
          have n7_ := Aside0.mk (blk_below (g := gb138) (o := .cells vA0 25 (0, 0)) (by (with_reducible repeat (first | refine blk_drewN ?_ _ | refine blk_drew ?_ | refine blk_alloc ?_ _)); exact BK138.out) hb)
          have n8_ := Aside0.mk (blk_below (g := gb139) (o := .cells vA1 25 (0, 0)) (by (with_reducible repeat (first | refine blk_drewN ?_ _ | refine blk_drew ?_ | refine blk_alloc ?_ _)); exact BK139.out) hb)
          have n9_ := Aside0.mk (below_step (by repeat (first | (with_reducible first | exact HB.out | apply below_alloc | apply pw_below_drewN | apply below_drew1 | refine below_set ?_ GE138.out | refine below_set ?_ GE139.out) | exact HB.out)) hb)
          clear HO145
          clear HO148
          clear HO152
          clear HO155
          clear HO160
          clear HO166
          clear BK138
          clear BK139
          clear HB
          have HO145 := n0_
          have HO148 := n1_
          have HO152 := n2_
          have HO155 := n3_
          have HO160 := n4_
          have HO166 := n5_
          have HO163 := n6_
          have BK138 := n7_
          have BK139 := n8_
          have HB := n9_
          clear n0_ n1_ n2_ n3_ n4_ n5_ n6_ n7_ n8_ n9_
          (try clear hb)
          (try clear hb2)
          (try clear hk)
          (try clear hi)
          (try clear ho0)
          refine hK.out _ _ ⟨(blk_cell BK138.out 0).trans rfl, (blk_cell BK138.out 1).trans rfl, (blk_cell BK138.out 2).trans rfl, (blk_cell BK138.out 3).trans rfl, (blk_cell BK138.out 4).trans rfl, (blk_cell BK138.out 5).trans rfl, (blk_cell BK138.out 6).trans rfl, (blk_cell BK138.out 7).trans rfl, (blk_cell BK138.out 8).trans rfl, (blk_cell BK138.out 9).trans rfl, (blk_cell BK139.out 0).trans rfl, (blk_cell BK139.out 1).trans rfl, (blk_cell BK139.out 2).trans rfl, (blk_cell BK139.out 3).trans rfl, (blk_cell BK139.out 4).trans rfl, (blk_cell BK139.out 5).trans rfl, (blk_cell BK139.out 6).trans rfl, (blk_cell BK139.out 7).trans rfl, (blk_cell BK139.out 8).trans rfl, (blk_cell BK139.out 9).trans rfl⟩ (fun hHeld => ?_)
          clear hK K
          refine norm_ (a' := ?_) ?_ ?_
          rotate_left
          ·
           show Act.put _ (some 45) _ = _
           simp only [Act.put, List.setIfInBounds_toArray, List.set_cons_zero, List.set_cons_succ, i64_w, i32_w]
           rfl
          exact norm_ (by first | (simp only [putAll, Act.put, List.setIfInBounds_toArray, List.set_cons_zero, List.set_cons_succ]; done) | (simp only [putAll, Act.put, List.setIfInBounds_toArray, List.set_cons_zero, List.set_cons_succ]; rfl)) (hJ17_19_20_25_28_29_32_38_40_43 (v144, v147, v151, v154, .slice Ao72 y158.length co72, v162, v165) _ ⟨hHeld, (by (with_reducible repeat (first | apply Kd.R_alloc | apply Kd.R_drewN | apply Kd.R_drew)); exact Kd.R_mono HO145.out (fun _ hk => ⟨hk.1.1, ⟨hk.1.2.1, ⟨hk.1.2.2.1, ⟨hk.1.2.2.2.1, ⟨hk.2, ⟨hk.1.2.2.2.2.1, ⟨hk.1.2.2.2.2.2.1, hk.1.2.2.2.2.2.2⟩⟩⟩⟩⟩⟩⟩)), (by (with_reducible repeat (first | apply Kd.R_alloc | apply Kd.R_drewN | apply Kd.R_drew)); exact Kd.R_mono HO148.out (fun _ hk => ⟨hk.1.1, ⟨hk.1.2.1, ⟨hk.1.2.2.1, ⟨hk.1.2.2.2.1, ⟨hk.2, ⟨hk.1.2.2.2.2.1, ⟨hk.1.2.2.2.2.2.1, hk.1.2.2.2.2.2.2⟩⟩⟩⟩⟩⟩⟩)), (by (with_reducible repeat (first | apply Kd.R_alloc | apply Kd.R_drewN | apply Kd.R_drew)); exact Kd.R_mono HO152.out (fun _ hk => ⟨hk.1.1, ⟨hk.1.2.1, ⟨hk.1.2.2.1, ⟨hk.1.2.2.2.1, ⟨hk.2, ⟨hk.1.2.2.2.2.1, ⟨hk.1.2.2.2.2.2.1, hk.1.2.2.2.2.2.2⟩⟩⟩⟩⟩⟩⟩)), (by (with_reducible repeat (first | apply Kd.R_alloc | apply Kd.R_drewN | apply Kd.R_drew)); exact Kd.R_mono HO155.out (fun _ hk => ⟨hk.1.1, ⟨hk.1.2.1, ⟨hk.1.2.2.1, ⟨hk.1.2.2.2.1, ⟨hk.2, ⟨hk.1.2.2.2.2.1, ⟨hk.1.2.2.2.2.2.1, hk.1.2.2.2.2.2.2⟩⟩⟩⟩⟩⟩⟩)), (by (with_reducible repeat (first | apply Kd.R_alloc | apply Kd.R_drewN | apply Kd.R_drew)); exact Kd.R_mono HO160.out (fun _ hk => ⟨hk.1.1, ⟨hk.1.2.1, ⟨hk.1.2.2.1, ⟨hk.1.2.2.2.1, ⟨hk.2, ⟨hk.1.2.2.2.2.1, ⟨hk.1.2.2.2.2.2.1, hk.1.2.2.2.2.2.2⟩⟩⟩⟩⟩⟩⟩)), (by (with_reducible repeat (first | apply Kd.R_alloc | apply Kd.R_drewN | apply Kd.R_drew)); exact Kd.R_mono HO163.out (fun _ hk => ⟨hk.1.1.1.1.1.1.1.2, ⟨hk.1.1.1.1.1.1.2, ⟨hk.1.1.1.1.1.2, ⟨hk.1.1.1.1.2, ⟨hk.1.1.1.2, ⟨hk.1.1.2, ⟨hk.1.2, hk.2⟩⟩⟩⟩⟩⟩⟩)), (by (with_reducible repeat (first | apply Kd.R_alloc | apply Kd.R_drewN | apply Kd.R_drew)); exact Kd.R_mono HO166.out (fun _ hk => ⟨hk.1.1, ⟨hk.1.2.1, ⟨hk.1.2.2.1, ⟨hk.1.2.2.2.1, ⟨hk.1.2.2.2.2.1, ⟨hk.2, ⟨hk.1.2.2.2.2.2.1, hk.1.2.2.2.2.2.2⟩⟩⟩⟩⟩⟩⟩)), (by (with_reducible repeat (first | refine blk_drewN ?_ _ | refine blk_drew ?_ | refine blk_alloc ?_ _)); exact BK138.out), (by (with_reducible repeat (first | refine blk_drewN ?_ _ | refine blk_drew ?_ | refine blk_alloc ?_ _)); exact BK139.out), (by repeat (first | (with_reducible first | exact HB.out | apply below_alloc | apply pw_below_drewN | apply below_drew1 | refine below_set ?_ GE138.out | refine below_set ?_ GE139.out) | exact HB.out))⟩)
        ·
         skip
         rintro ⟨v144, v147, v151, v154, v159, v162⟩ w71 ⟨hS_, h0_, h1_, h2_, h3_, h4_, h5_, h6_, h7_, h8_⟩
         have n0_ : Aside0 (Kd.R k25 25 w71 w.heap.size (fun k_ => some k_ ≠ (v147 : Value).ownBlock ∧ some k_ ≠ (v151 : Value).ownBlock ∧ some k_ ≠ (v154 : Value).ownBlock ∧ some k_ ≠ (v159 : Value).ownBlock ∧ some k_ ≠ (v162 : Value).ownBlock ∧ k_ ≠ gb138 ∧ k_ ≠ gb139) v144 y143) := ⟨h0_⟩
         have n1_ : Aside0 (Kd.R k25 25 w71 w.heap.size (fun k_ => some k_ ≠ (v144 : Value).ownBlock ∧ some k_ ≠ (v151 : Value).ownBlock ∧ some k_ ≠ (v154 : Value).ownBlock ∧ some k_ ≠ (v159 : Value).ownBlock ∧ some k_ ≠ (v162 : Value).ownBlock ∧ k_ ≠ gb138 ∧ k_ ≠ gb139) v147 y146) := ⟨h1_⟩
         have n2_ : Aside0 (Kd.R k25 25 w71 w.heap.size (fun k_ => some k_ ≠ (v144 : Value).ownBlock ∧ some k_ ≠ (v147 : Value).ownBlock ∧ some k_ ≠ (v154 : Value).ownBlock ∧ some k_ ≠ (v159 : Value).ownBlock ∧ some k_ ≠ (v162 : Value).ownBlock ∧ k_ ≠ gb138 ∧ k_ ≠ gb139) v151 y150) := ⟨h2_⟩
         have n3_ : Aside0 (Kd.R k25 25 w71 w.heap.size (fun k_ => some k_ ≠ (v144 : Value).ownBlock ∧ some k_ ≠ (v147 : Value).ownBlock ∧ some k_ ≠ (v151 : Value).ownBlock ∧ some k_ ≠ (v159 : Value).ownBlock ∧ some k_ ≠ (v162 : Value).ownBlock ∧ k_ ≠ gb138 ∧ k_ ≠ gb139) v154 y153) := ⟨h3_⟩
         have n4_ : Aside0 (Kd.R k25 25 w71 w.heap.size (fun k_ => some k_ ≠ (v144 : Value).ownBlock ∧ some k_ ≠ (v147 : Value).ownBlock ∧ some k_ ≠ (v151 : Value).ownBlock ∧ some k_ ≠ (v154 : Value).ownBlock ∧ some k_ ≠ (v162 : Value).ownBlock ∧ k_ ≠ gb138 ∧ k_ ≠ gb139) v159 y158) := ⟨h4_⟩
         have n5_ : Aside0 (Kd.R k25 25 w71 w.heap.size (fun k_ => some k_ ≠ (v144 : Value).ownBlock ∧ some k_ ≠ (v147 : Value).ownBlock ∧ some k_ ≠ (v151 : Value).ownBlock ∧ some k_ ≠ (v154 : Value).ownBlock ∧ some k_ ≠ (v159 : Value).ownBlock ∧ k_ ≠ gb138 ∧ k_ ≠ gb139) v162 t161) := ⟨h5_⟩
         have n6_ : Aside0 (w71.heap[gb138]? = some (.cells vA0 25 (0, 0))) := ⟨h6_⟩
         have n7_ : Aside0 (w71.heap[gb139]? = some (.cells vA1 25 (0, 0))) := ⟨h7_⟩
         have n8_ : Aside0 (Below w.heap.size w w71) := ⟨h8_⟩
         clear BK138
         clear BK139
         clear HB
         clear h0_ h1_ h2_ h3_ h4_ h5_ h6_ h7_ h8_
         have HO145 := n0_
         have HO148 := n1_
         have HO152 := n2_
         have HO155 := n3_
         have HO160 := n4_
         have HO163 := n5_
         have BK138 := n6_
         have BK139 := n7_
         have HB := n8_
         clear n0_ n1_ n2_ n3_ n4_ n5_ n6_ n7_ n8_
         have hHeld : w71.cell? ⟨gb138, 0, none⟩ = some (.int .i64 4) ∧ w71.cell? ⟨gb138, 1, none⟩ = some (.int .i64 0) ∧ w71.cell? ⟨gb138, 2, none⟩ = some (.int .i64 0) ∧ w71.cell? ⟨gb138, 3, none⟩ = some (.int .u32 0) ∧ w71.cell? ⟨gb138, 4, none⟩ = some (.int .u32 0) ∧ w71.cell? ⟨gb138, 5, none⟩ = some (.int .u32 7) ∧ w71.cell? ⟨gb138, 6, none⟩ = some (.int .u32 0) ∧ w71.cell? ⟨gb138, 7, none⟩ = some (.int .u32 0) ∧ w71.cell? ⟨gb138, 8, none⟩ = some (.int .u32 0) ∧ w71.cell? ⟨gb138, 9, none⟩ = some (.int .u32 1) ∧ w71.cell? ⟨gb139, 0, none⟩ = some (.int .i64 3) ∧ w71.cell? ⟨gb139, 1, none⟩ = some (.int .i64 0) ∧ w71.cell? ⟨gb139, 2, none⟩ = some (.int .i64 0) ∧ w71.cell? ⟨gb139, 3, none⟩ = some (.int .u32 0) ∧ w71.cell? ⟨gb139, 4, none⟩ = some (.int .u32 0) ∧ w71.cell? ⟨gb139, 5, none⟩ = some (.int .u32 7) ∧ w71.cell? ⟨gb139, 6, none⟩ = some (.int .u32 0) ∧ w71.cell? ⟨gb139, 7, none⟩ = some (.int .u32 0) ∧ w71.cell? ⟨gb139, 8, none⟩ = some (.int .u32 0) ∧ w71.cell? ⟨gb139, 9, none⟩ = some (.int .u32 2) := hS_
         refine norm_ (a' := ?_) ?_ ?_
         rotate_left
         ·
          simp only [putAll, Act.put, List.setIfInBounds_toArray, List.set_cons_zero, List.set_cons_succ]
          rfl
         refine one_ (i := 43) (N := some 48) #[Y,Y,Y,Y,Y,Y,Y,Y,Y,Y,Y,Y,Y,Y,Y,Y,Y,Y,Y,Y,Y,Y,Y,Y,Y,Y,Y,Y,Y,Y,Y,Y,Y,Y,Y,Y,Y,Y,Y,Y,Y,Y,Y,Y,Z,Z,Z] rfl rfl (one_of HT_.out (by kernel_rfl)) (by decide) (fun K hK => ?_)
         refine Kd.R_lit_step k25 _ 25 ?hg (N := 48) ?hd (xs := ([(⟨4, 0, 0, 0, 0, 7, 0, 0, 0, 1⟩ : S25), (⟨4, 0, 0, 0, 0, 7, 0, 0, 0, 1⟩ : S25)] : List (S25))) (inner := [.int .i64 4, .int .i64 0, .int .i64 0, .int .u32 0, .int .u32 0, .int .u32 7, .int .u32 0, .int .u32 0, .int .u32 0, .int .u32 1, .int .i64 4, .int .i64 0, .int .i64 0, .int .u32 0, .int .u32 0, .int .u32 7, .int .u32 0, .int .u32 0, .int .u32 0, .int .u32 1]) (ok := fun _ => True) (okp := fun _ => True) ?hr ?hp (fun _ hk => hk) trivial (Below.refl _ _) (Nat.le_refl _) (by simp) ?_; (case hd => rfl); (case hg => rfl); (case hr => first | (go_simp; done) | (go_simp; rfl)); (case hp => exact (Reps.c10 (show Kd.M k25 _ _ _ (⟨4, 0, 0, 0, 0, 7, 0, 0, 0, 1⟩ : S25) [.int .i64 4, .int .i64 0, .int .i64 0, .int .u32 0, .int .u32 0, .int .u32 7, .int .u32 0, .int .u32 0, .int .u32 0, .int .u32 1] from (k25_mkM _ _ _ (⟨4, 0, 0, 0, 0, 7, 0, 0, 0, 1⟩ : S25) )) (Reps.c10 (show Kd.M k25 _ _ _ (⟨4, 0, 0, 0, 0, 7, 0, 0, 0, 1⟩ : S25) [.int .i64 4, .int .i64 0, .int .i64 0, .int .u32 0, .int .u32 0, .int .u32 7, .int .u32 0, .int .u32 0, .int .u32 0, .int .u32 1] from (k25_mkM _ _ _ (⟨4, 0, 0, 0, 0, 7, 0, 0, 0, 1⟩ : S25) )) (Reps.none _ _))))
         intro v165 w72 ho73 hb hg_ hnew_
         clear hg_ hnew_
         (first | rw [← Ny164.out] at ho73 | (simp only [Int.reduceToNat] at ho73; rw [← Ny164.out] at ho73))
         have n0_ := Aside0.mk (Kd.R_elder' (by (with_reducible repeat (first | apply Kd.R_alloc | apply Kd.R_drewN | apply Kd.R_drew)); exact HO145.out) (Kd.R_base ho73) hb)
         have n1_ := Aside0.mk (Kd.R_elder' (by (with_reducible repeat (first | apply Kd.R_alloc | apply Kd.R_drewN | apply Kd.R_drew)); exact HO148.out) (Kd.R_base ho73) hb)
         have n2_ := Aside0.mk (Kd.R_elder' (by (with_reducible repeat (first | apply Kd.R_alloc | apply Kd.R_drewN | apply Kd.R_drew)); exact HO152.out) (Kd.R_base ho73) hb)
         have n3_ := Aside0.mk (Kd.R_elder' (by (with_reducible repeat (first | apply Kd.R_alloc | apply Kd.R_drewN | apply Kd.R_drew)); exact HO155.out) (Kd.R_base ho73) hb)
         have n4_ := Aside0.mk (Kd.R_elder' (by (with_reducible repeat (first | apply Kd.R_alloc | apply Kd.R_drewN | apply Kd.R_drew)); exact HO160.out) (Kd.R_base ho73) hb)
         have n5_ := Aside0.mk (Kd.R_elder' (by (with_reducible repeat (first | apply Kd.R_alloc | apply Kd.R_drewN | apply Kd.R_drew)); exact HO163.out) (Kd.R_base ho73) hb)
         have n6_ := Aside0.mk (Kd.R_lower (Kd.R_newB (Kd.R_newB (Kd.R_new' (Kd.R_new' (Kd.R_new' (Kd.R_new' (Kd.R_new' (Kd.R_new' ho73 (Kd.R_lt (by (with_reducible repeat (first | apply Kd.R_alloc | apply Kd.R_drewN | apply Kd.R_drew)); exact HO145.out))) (Kd.R_lt (by (with_reducible repeat (first | apply Kd.R_alloc | apply Kd.R_drewN | apply Kd.R_drew)); exact HO148.out))) (Kd.R_lt (by (with_reducible repeat (first | apply Kd.R_alloc | apply Kd.R_drewN | apply Kd.R_drew)); exact HO152.out))) (Kd.R_lt (by (with_reducible repeat (first | apply Kd.R_alloc | apply Kd.R_drewN | apply Kd.R_drew)); exact HO155.out))) (Kd.R_lt (by (with_reducible repeat (first | apply Kd.R_alloc | apply Kd.R_drewN | apply Kd.R_drew)); exact HO160.out))) (Kd.R_lt (by (with_reducible repeat (first | apply Kd.R_alloc | apply Kd.R_drewN | apply Kd.R_drew)); exact HO163.out))) (g := gb138) (o := .cells vA0 25 (0, 0)) (by (with_reducible repeat (first | refine blk_drewN ?_ _ | refine blk_drew ?_ | refine blk_alloc ?_ _)); exact BK138.out)) (g := gb139) (o := .cells vA1 25 (0, 0)) (by (with_reducible repeat (first | refine blk_drewN ?_ _ | refine blk_drew ?_ | refine blk_alloc ?_ _)); exact BK139.out)) (below_size (by repeat (first | (with_reducible first | exact HB.out | apply below_alloc | apply pw_below_drewN | apply below_drew1 | refine below_set ?_ GE138.out | refine below_set ?_ GE139.out) | exact HB.out))))
         have n7_ := Aside0.mk (blk_below (g := gb138) (o := .cells vA0 25 (0, 0)) (by (with_reducible repeat (first | refine blk_drewN ?_ _ | refine blk_drew ?_ | refine blk_alloc ?_ _)); exact BK138.out) hb)
         have n8_ := Aside0.mk (blk_below (g := gb139) (o := .cells vA1 25 (0, 0)) (by (with_reducible repeat (first | refine blk_drewN ?_ _ | refine blk_drew ?_ | refine blk_alloc ?_ _)); exact BK139.out) hb)
         have n9_ := Aside0.mk (below_step (by repeat (first | (with_reducible first | exact HB.out | apply below_alloc | apply pw_below_drewN | apply below_drew1 | refine below_set ?_ GE138.out | refine below_set ?_ GE139.out) | exact HB.out)) hb)
         clear HO145
         clear HO148
         clear HO152
         clear HO155
         clear HO160
         clear HO163
         clear BK138
         clear BK139
         clear HB
         have HO145 := n0_
         have HO148 := n1_
         have HO152 := n2_
         have HO155 := n3_
         have HO160 := n4_
         have HO163 := n5_
         have HO166 := n6_
         have BK138 := n7_
         have BK139 := n8_
         have HB := n9_
         clear n0_ n1_ n2_ n3_ n4_ n5_ n6_ n7_ n8_ n9_
         clear hb ho73
         refine hK.out _ _ ⟨(blk_cell BK138.out 0).trans rfl, (blk_cell BK138.out 1).trans rfl, (blk_cell BK138.out 2).trans rfl, (blk_cell BK138.out 3).trans rfl, (blk_cell BK138.out 4).trans rfl, (blk_cell BK138.out 5).trans rfl, (blk_cell BK138.out 6).trans rfl, (blk_cell BK138.out 7).trans rfl, (blk_cell BK138.out 8).trans rfl, (blk_cell BK138.out 9).trans rfl, (blk_cell BK139.out 0).trans rfl, (blk_cell BK139.out 1).trans rfl, (blk_cell BK139.out 2).trans rfl, (blk_cell BK139.out 3).trans rfl, (blk_cell BK139.out 4).trans rfl, (blk_cell BK139.out 5).trans rfl, (blk_cell BK139.out 6).trans rfl, (blk_cell BK139.out 7).trans rfl, (blk_cell BK139.out 8).trans rfl, (blk_cell BK139.out 9).trans rfl⟩ (fun hHeld => ?_)
         clear hK K
         refine norm_ (a' := ?_) ?_ ?_
         rotate_left
         ·
          show Act.put _ (some 48) _ = _
          simp only [Act.put, List.setIfInBounds_toArray, List.set_cons_zero, List.set_cons_succ, i64_w, i32_w]
          rfl
         exact norm_ (by first | (simp only [putAll, Act.put, List.setIfInBounds_toArray, List.set_cons_zero, List.set_cons_succ]; done) | (simp only [putAll, Act.put, List.setIfInBounds_toArray, List.set_cons_zero, List.set_cons_succ]; rfl)) (hJ17_19_20_25_28_29_32_38_40_43 (v144, v147, v151, v154, v159, v162, v165) _ ⟨hHeld, (by (with_reducible repeat (first | apply Kd.R_alloc | apply Kd.R_drewN | apply Kd.R_drew)); exact Kd.R_mono HO145.out (fun _ hk => ⟨hk.1.1, ⟨hk.1.2.1, ⟨hk.1.2.2.1, ⟨hk.1.2.2.2.1, ⟨hk.1.2.2.2.2.1, ⟨hk.2, ⟨hk.1.2.2.2.2.2.1, hk.1.2.2.2.2.2.2⟩⟩⟩⟩⟩⟩⟩)), (by (with_reducible repeat (first | apply Kd.R_alloc | apply Kd.R_drewN | apply Kd.R_drew)); exact Kd.R_mono HO148.out (fun _ hk => ⟨hk.1.1, ⟨hk.1.2.1, ⟨hk.1.2.2.1, ⟨hk.1.2.2.2.1, ⟨hk.1.2.2.2.2.1, ⟨hk.2, ⟨hk.1.2.2.2.2.2.1, hk.1.2.2.2.2.2.2⟩⟩⟩⟩⟩⟩⟩)), (by (with_reducible repeat (first | apply Kd.R_alloc | apply Kd.R_drewN | apply Kd.R_drew)); exact Kd.R_mono HO152.out (fun _ hk => ⟨hk.1.1, ⟨hk.1.2.1, ⟨hk.1.2.2.1, ⟨hk.1.2.2.2.1, ⟨hk.1.2.2.2.2.1, ⟨hk.2, ⟨hk.1.2.2.2.2.2.1, hk.1.2.2.2.2.2.2⟩⟩⟩⟩⟩⟩⟩)), (by (with_reducible repeat (first | apply Kd.R_alloc | apply Kd.R_drewN | apply Kd.R_drew)); exact Kd.R_mono HO155.out (fun _ hk => ⟨hk.1.1, ⟨hk.1.2.1, ⟨hk.1.2.2.1, ⟨hk.1.2.2.2.1, ⟨hk.1.2.2.2.2.1, ⟨hk.2, ⟨hk.1.2.2.2.2.2.1, hk.1.2.2.2.2.2.2⟩⟩⟩⟩⟩⟩⟩)), (by (with_reducible repeat (first | apply Kd.R_alloc | apply Kd.R_drewN | apply Kd.R_drew)); exact Kd.R_mono HO160.out (fun _ hk => ⟨hk.1.1, ⟨hk.1.2.1, ⟨hk.1.2.2.1, ⟨hk.1.2.2.2.1, ⟨hk.1.2.2.2.2.1, ⟨hk.2, ⟨hk.1.2.2.2.2.2.1, hk.1.2.2.2.2.2.2⟩⟩⟩⟩⟩⟩⟩)), (by (with_reducible repeat (first | apply Kd.R_alloc | apply Kd.R_drewN | apply Kd.R_drew)); exact Kd.R_mono HO163.out (fun _ hk => ⟨hk.1.1, ⟨hk.1.2.1, ⟨hk.1.2.2.1, ⟨hk.1.2.2.2.1, ⟨hk.1.2.2.2.2.1, ⟨hk.2, ⟨hk.1.2.2.2.2.2.1, hk.1.2.2.2.2.2.2⟩⟩⟩⟩⟩⟩⟩)), (by (with_reducible repeat (first | apply Kd.R_alloc | apply Kd.R_drewN | apply Kd.R_drew)); exact Kd.R_mono HO166.out (fun _ hk => ⟨hk.1.1.1.1.1.1.1.2, ⟨hk.1.1.1.1.1.1.2, ⟨hk.1.1.1.1.1.2, ⟨hk.1.1.1.1.2, ⟨hk.1.1.1.2, ⟨hk.1.1.2, ⟨hk.1.2, hk.2⟩⟩⟩⟩⟩⟩⟩)), (by (with_reducible repeat (first | refine blk_drewN ?_ _ | refine blk_drew ?_ | refine blk_alloc ?_ _)); exact BK138.out), (by (with_reducible repeat (first | refine blk_drewN ?_ _ | refine blk_drew ?_ | refine blk_alloc ?_ _)); exact BK139.out), (by repeat (first | (with_reducible first | exact HB.out | apply below_alloc | apply pw_below_drewN | apply below_drew1 | refine below_set ?_ GE138.out | refine below_set ?_ GE139.out) | exact HB.out))⟩)
       rintro ⟨v144, v147, v151, v154, v159, v162, v165⟩ w73 ⟨hS_, h0_, h1_, h2_, h3_, h4_, h5_, h6_, h7_, h8_, h9_⟩
       have n0_ : Aside0 (Kd.R k25 25 w73 w.heap.size (fun k_ => some k_ ≠ (v147 : Value).ownBlock ∧ some k_ ≠ (v151 : Value).ownBlock ∧ some k_ ≠ (v154 : Value).ownBlock ∧ some k_ ≠ (v159 : Value).ownBlock ∧ some k_ ≠ (v162 : Value).ownBlock ∧ some k_ ≠ (v165 : Value).ownBlock ∧ k_ ≠ gb138 ∧ k_ ≠ gb139) v144 y143) := ⟨h0_⟩
       have n1_ : Aside0 (Kd.R k25 25 w73 w.heap.size (fun k_ => some k_ ≠ (v144 : Value).ownBlock ∧ some k_ ≠ (v151 : Value).ownBlock ∧ some k_ ≠ (v154 : Value).ownBlock ∧ some k_ ≠ (v159 : Value).ownBlock ∧ some k_ ≠ (v162 : Value).ownBlock ∧ some k_ ≠ (v165 : Value).ownBlock ∧ k_ ≠ gb138 ∧ k_ ≠ gb139) v147 y146) := ⟨h1_⟩
       have n2_ : Aside0 (Kd.R k25 25 w73 w.heap.size (fun k_ => some k_ ≠ (v144 : Value).ownBlock ∧ some k_ ≠ (v147 : Value).ownBlock ∧ some k_ ≠ (v154 : Value).ownBlock ∧ some k_ ≠ (v159 : Value).ownBlock ∧ some k_ ≠ (v162 : Value).ownBlock ∧ some k_ ≠ (v165 : Value).ownBlock ∧ k_ ≠ gb138 ∧ k_ ≠ gb139) v151 y150) := ⟨h2_⟩
       have n3_ : Aside0 (Kd.R k25 25 w73 w.heap.size (fun k_ => some k_ ≠ (v144 : Value).ownBlock ∧ some k_ ≠ (v147 : Value).ownBlock ∧ some k_ ≠ (v151 : Value).ownBlock ∧ some k_ ≠ (v159 : Value).ownBlock ∧ some k_ ≠ (v162 : Value).ownBlock ∧ some k_ ≠ (v165 : Value).ownBlock ∧ k_ ≠ gb138 ∧ k_ ≠ gb139) v154 y153) := ⟨h3_⟩
       have n4_ : Aside0 (Kd.R k25 25 w73 w.heap.size (fun k_ => some k_ ≠ (v144 : Value).ownBlock ∧ some k_ ≠ (v147 : Value).ownBlock ∧ some k_ ≠ (v151 : Value).ownBlock ∧ some k_ ≠ (v154 : Value).ownBlock ∧ some k_ ≠ (v162 : Value).ownBlock ∧ some k_ ≠ (v165 : Value).ownBlock ∧ k_ ≠ gb138 ∧ k_ ≠ gb139) v159 y158) := ⟨h4_⟩
       have n5_ : Aside0 (Kd.R k25 25 w73 w.heap.size (fun k_ => some k_ ≠ (v144 : Value).ownBlock ∧ some k_ ≠ (v147 : Value).ownBlock ∧ some k_ ≠ (v151 : Value).ownBlock ∧ some k_ ≠ (v154 : Value).ownBlock ∧ some k_ ≠ (v159 : Value).ownBlock ∧ some k_ ≠ (v165 : Value).ownBlock ∧ k_ ≠ gb138 ∧ k_ ≠ gb139) v162 t161) := ⟨h5_⟩
       have n6_ : Aside0 (Kd.R k25 25 w73 w.heap.size (fun k_ => some k_ ≠ (v144 : Value).ownBlock ∧ some k_ ≠ (v147 : Value).ownBlock ∧ some k_ ≠ (v151 : Value).ownBlock ∧ some k_ ≠ (v154 : Value).ownBlock ∧ some k_ ≠ (v159 : Value).ownBlock ∧ some k_ ≠ (v162 : Value).ownBlock ∧ k_ ≠ gb138 ∧ k_ ≠ gb139) v165 y164) := ⟨h6_⟩
       have n7_ : Aside0 (w73.heap[gb138]? = some (.cells vA0 25 (0, 0))) := ⟨h7_⟩
       have n8_ : Aside0 (w73.heap[gb139]? = some (.cells vA1 25 (0, 0))) := ⟨h8_⟩
       have n9_ : Aside0 (Below w.heap.size w w73) := ⟨h9_⟩
       clear BK138
       clear BK139
       clear HB
       clear h0_ h1_ h2_ h3_ h4_ h5_ h6_ h7_ h8_ h9_
       have HO145 := n0_
       have HO148 := n1_
       have HO152 := n2_
       have HO155 := n3_
       have HO160 := n4_
       have HO163 := n5_
       have HO166 := n6_
       have BK138 := n7_
       have BK139 := n8_
       have HB := n9_
       clear n0_ n1_ n2_ n3_ n4_ n5_ n6_ n7_ n8_ n9_
       have hHeld : w73.cell? ⟨gb138, 0, none⟩ = some (.int .i64 4) ∧ w73.cell? ⟨gb138, 1, none⟩ = some (.int .i64 0) ∧ w73.cell? ⟨gb138, 2, none⟩ = some (.int .i64 0) ∧ w73.cell? ⟨gb138, 3, none⟩ = some (.int .u32 0) ∧ w73.cell? ⟨gb138, 4, none⟩ = some (.int .u32 0) ∧ w73.cell? ⟨gb138, 5, none⟩ = some (.int .u32 7) ∧ w73.cell? ⟨gb138, 6, none⟩ = some (.int .u32 0) ∧ w73.cell? ⟨gb138, 7, none⟩ = some (.int .u32 0) ∧ w73.cell? ⟨gb138, 8, none⟩ = some (.int .u32 0) ∧ w73.cell? ⟨gb138, 9, none⟩ = some (.int .u32 1) ∧ w73.cell? ⟨gb139, 0, none⟩ = some (.int .i64 3) ∧ w73.cell? ⟨gb139, 1, none⟩ = some (.int .i64 0) ∧ w73.cell? ⟨gb139, 2, none⟩ = some (.int .i64 0) ∧ w73.cell? ⟨gb139, 3, none⟩ = some (.int .u32 0) ∧ w73.cell? ⟨gb139, 4, none⟩ = some (.int .u32 0) ∧ w73.cell? ⟨gb139, 5, none⟩ = some (.int .u32 7) ∧ w73.cell? ⟨gb139, 6, none⟩ = some (.int .u32 0) ∧ w73.cell? ⟨gb139, 7, none⟩ = some (.int .u32 0) ∧ w73.cell? ⟨gb139, 8, none⟩ = some (.int .u32 0) ∧ w73.cell? ⟨gb139, 9, none⟩ = some (.int .u32 2) := hS_
       obtain ⟨Ao74, co74, eo74⟩ := Kd.R_slice HO163.out
       (first | subst eo74 | (injection eo74 with f1_ f2_ f3_; have f4_ := f1_.symm; have f5_ := f3_.symm; clear f1_ f2_ f3_; subst f4_; subst f5_))
       obtain ⟨Ao75, co75, eo75⟩ := Kd.R_slice HO166.out
       (first | subst eo75 | (injection eo75 with f1_ f2_ f3_; have f4_ := f1_.symm; have f5_ := f3_.symm; clear f1_ f2_ f3_; subst f4_; subst f5_))
       refine norm_ (a' := ?_) ?_ ?_
       rotate_left
       ·
        simp only [putAll, Act.put, List.setIfInBounds_toArray, List.set_cons_zero, List.set_cons_succ]
        rfl
       refine one_ (i := 44) (N := some 49) #[Y,Y,Y,Y,Y,Y,Y,Y,Y,Y,Y,Y,Y,Y,Y,Y,Y,Y,Y,Y,Y,Y,Y,Y,Y,Y,Y,Y,Y,Y,Y,Y,Y,Y,Y,Y,Y,Y,Y,Y,Y,Y,Y,Y,Y,Z,Z] rfl rfl (one_of HT_.out (by kernel_rfl)) (by decide) (fun K hK => ?_)
       refine goes_ Try.func12 (by kernel_rfl) rfl #[.slice Ao74 t161.length co74, .slice Ao75 y164.length co75] (by rfl) rfl rfl (by (try simp only [List.map_toArray, List.map_cons, List.map_nil]); first | done | rfl | (simp only [List.length_drop, List.length_take]; rfl)) ?_
       with_reducible refine (chamberlainref12_Events.calls k _ _ t161 _ _ y164 t167 _ ?side1 ?side2 ?side3 ?side4 A41.out).mono ?_
       (case side1 => repeat (first | exact (Kd.R_reads' HO163.out).2.2 | (with_reducible refine Kd.C_alloc ?_ _) | (with_reducible refine Kd.C_drewN ?_ _) | (with_reducible refine Kd.C_drew ?_)))
       (case side2 => exact (Kd.R_reads' HO163.out).2.1)
       (case side3 => repeat (first | exact (Kd.R_reads' HO166.out).2.2 | (with_reducible refine Kd.C_alloc ?_ _) | (with_reducible refine Kd.C_drewN ?_ _) | (with_reducible refine Kd.C_drew ?_)))
       (case side4 => exact (Kd.R_reads' HO166.out).2.1)
       rintro e w' ⟨rfl, ⟨nd, rfl⟩⟩
       refine ⟨_, rfl, ?_⟩
       refine hK.out _ _ ⟨(blk_cell BK138.out 0).trans rfl, (blk_cell BK138.out 1).trans rfl, (blk_cell BK138.out 2).trans rfl, (blk_cell BK138.out 3).trans rfl, (blk_cell BK138.out 4).trans rfl, (blk_cell BK138.out 5).trans rfl, (blk_cell BK138.out 6).trans rfl, (blk_cell BK138.out 7).trans rfl, (blk_cell BK138.out 8).trans rfl, (blk_cell BK138.out 9).trans rfl, (blk_cell BK139.out 0).trans rfl, (blk_cell BK139.out 1).trans rfl, (blk_cell BK139.out 2).trans rfl, (blk_cell BK139.out 3).trans rfl, (blk_cell BK139.out 4).trans rfl, (blk_cell BK139.out 5).trans rfl, (blk_cell BK139.out 6).trans rfl, (blk_cell BK139.out 7).trans rfl, (blk_cell BK139.out 8).trans rfl, (blk_cell BK139.out 9).trans rfl⟩ (fun hHeld => ?_)
       clear hK K
       refine norm_ (a' := ?_) ?_ ?_
       rotate_left
       ·
        show Act.put _ (some 49) _ = _
        simp only [Act.put, List.setIfInBounds_toArray, List.set_cons_zero, List.set_cons_succ, i64_w, i32_w]
        rfl
       refine pure_ (i := 45) (N := some 50) (v := ?_) (a' := ?_) #[Y,Y,Y,Y,Y,Y,Y,Y,Y,Y,Y,Y,Y,Y,Y,Y,Y,Y,Y,Y,Y,Y,Y,Y,Y,Y,Y,Y,Y,Y,Y,Y,Y,Y,Y,Y,Y,Y,Y,Y,Y,Y,Y,Y,Y,Y,Z] rfl rfl (any_of HT_.out (by kernel_rfl)) (fun _ _ _ h => h) (Or.inl ⟨by rfl, ?_⟩) ?_ ?_
       rotate_left
       ·
        intro w'
        go_simp
        with_reducible rfl
       rotate_left
       ·
        simp only [Act.put, List.setIfInBounds_toArray, List.set_cons_zero, List.set_cons_succ, i64_w, i32_w]
        rfl
       refine pure_ (i := 46) (N := some 0) (v := ?_) (a' := ?_) #[Y,Y,Y,Y,Y,Y,Y,Y,Y,Y,Y,Y,Y,Y,Y,Y,Y,Y,Y,Y,Y,Y,Y,Y,Y,Y,Y,Y,Y,Y,Y,Y,Y,Y,Y,Y,Y,Y,Y,Y,Y,Y,Y,Y,Y,Y,Y] rfl rfl (any_of HT_.out (by kernel_rfl)) (fun _ _ _ h => h) (Or.inl ⟨by rfl, ?_⟩) ?_ ?_
       rotate_left
       ·
        intro w'
        go_simp
        with_reducible rfl
       rotate_left
       ·
        simp only [Act.put, List.setIfInBounds_toArray, List.set_cons_zero, List.set_cons_succ, i64_w, i32_w]
        rfl
       refine done_ (done_of HT_.out (by kernel_rfl)) ?_
       try go_wp2
       go_ret
       exact ⟨by first | rfl | (simp [errW_none, errW_some] <;> rfl) | (simp [*, errW_none, errW_some] <;> rfl), by repeat (first | (with_reducible first | exact HB.out | apply below_alloc | apply pw_below_drewN | apply below_drew1 | refine below_set ?_ GE138.out | refine below_set ?_ GE139.out) | exact HB.out)⟩
      ·
       replace c39 := Bool.eq_false_iff.mpr c39
       subst c39
       have H1 : (some false) = some r := by rw [if_neg (show ¬ (false = true) by decide)] at H; exact H
       clear H
       have H := H1
       clear H1
       exact absurd (hT.out.symm.trans (Option.some.inj H).symm) (by decide)
     ·
      replace c37 := Bool.eq_false_iff.mpr c37
      subst c37
      have H1 : (some false) = some r := by rw [if_neg (show ¬ (false = true) by decide)] at H; exact H
      clear H
      have H := H1
      clear H1
      exact absurd (hT.out.symm.trans (Option.some.inj H).symm) (by decide)
   ·
    replace c15 := Bool.eq_false_iff.mpr c15
    subst c15
    have H1 : (some false) = some r := by rw [if_neg (show ¬ (false = true) by decide)] at H; exact H
    clear H
    have H := H1
    clear H1
    exact absurd (hT.out.symm.trans (Option.some.inj H).symm) (by decide)
 ·
  replace c2 := Bool.eq_false_iff.mpr c2
  subst c2
  have H1 : (some false) = some r := by rw [if_neg (show ¬ (false = true) by decide)] at H; exact H
  clear H
  have H := H1
  clear H1
  exact absurd (hT.out.symm.trans (Option.some.inj H).symm) (by decide)

end Go.Proofs.Ytmmpiblmggkghaa.PLogParts
