-- Written for this claim by wip/tools/myprint.py (print.py's forms; proofs of the faked functions by hand).
import Derived.Test.YtjhopebkflgcbaaPRunsOrderx0
import Derived.Test.YtjhopebkflgcbaaPRunsOrderx1
import Derived.Test.YtjhopebkflgcbaaPRunsOrderx2
import Derived.Test.YtjhopebkflgcbaaPRunsOrderx3
import Derived.Test.YtjhopebkflgcbaaPRunsOrderx4
import Derived.Test.YtjhopebkflgcbaaPRunsOrderx5
namespace Go.Proofs.Ytjhopebkflgcbaa.PRunsOrder
open Go.RowKit Go.Proofs.YtjhopebkflgcbaaW.PrintWords Go.Proofs.YtjhopebkflgcbaaW.PrintLast Go.Proofs.YtjhopebkflgcbaaW.PrintMore
attribute [local go_sem] max2_int min2_int max_two min_two max_three min_three max_four min_four   -- for this text's walks alone
set_option linter.unusedVariables false
set_option linter.unusedSimpArgs false

attribute [local go_sem high] eqA25
/-! ### chamberlainlaw09_RunsOrder: function 4 -/
mutual
def chamberlainlaw09_RunsOrder.j0 : Nat → List (S25) → Int → Int → Int → Bool → Option (Bool)
  | 0, _, _, _, _, _ => none
  | k + 1, x0, x1, x2, x3, x34 => if x34 = true then ((chamberlainlaw09_awake.f k).bind fun t186 => (some t186)) else (chamberlainlaw09_RunsOrder.l0 k x0 x1 x2 x3 0 0)
def chamberlainlaw09_RunsOrder.l0 : Nat → List (S25) → Int → Int → Int → Int → Int → Option (Bool)
  | 0, _, _, _, _, _, _ => none
  | k + 1, x0, x1, x2, x3, x9, x10 => if x10 < (x0.length : Int) then (if 0 ≤ x10 then (if ((rd_T25 x0 x10).f0) = x1 then (if ((rd_T25 x0 x10).f1) = x2 then (if ((rd_T25 x0 x10).f8) = x3 then (chamberlainlaw09_RunsOrder.l0 k x0 x1 x2 x3 (wrap64 (x9 + 1)) (wrap64 (x10 + 1))) else (chamberlainlaw09_RunsOrder.l0 k x0 x1 x2 x3 x9 (wrap64 (x10 + 1)))) else (chamberlainlaw09_RunsOrder.l0 k x0 x1 x2 x3 x9 (wrap64 (x10 + 1)))) else (chamberlainlaw09_RunsOrder.l0 k x0 x1 x2 x3 x9 (wrap64 (x10 + 1)))) else (none)) else (chamberlainlaw09_RunsOrder.l1 k x0 x1 x2 x3 x9 0 0)
def chamberlainlaw09_RunsOrder.l1 : Nat → List (S25) → Int → Int → Int → Int → Int → Int → Option (Bool)
  | 0, _, _, _, _, _, _, _ => none
  | k + 1, x0, x1, x2, x3, x9, x11, x12 => if x12 ≤ (x0.length : Int) then ((runs_Next.f k x0 x11 x1 x2 x3).bind fun bt190 => (if bt190.2 = true then (if bt190.1 < x11 then (chamberlainlaw09_RunsOrder.j3 k x0 x1 x2 x3 x9 x12 bt190.1 true) else (if bt190.1 ≥ (x0.length : Int) then (chamberlainlaw09_RunsOrder.j3 k x0 x1 x2 x3 x9 x12 bt190.1 true) else (if 0 ≤ bt190.1 then (if bt190.1 < (x0.length : Int) then (if ((rd_T25 x0 bt190.1).f0) = x1 then (if ((rd_T25 x0 bt190.1).f1) = x2 then (chamberlainlaw09_RunsOrder.j3 k x0 x1 x2 x3 x9 x12 bt190.1 (((rd_T25 x0 bt190.1).f8) != x3)) else (chamberlainlaw09_RunsOrder.j3 k x0 x1 x2 x3 x9 x12 bt190.1 true)) else (chamberlainlaw09_RunsOrder.j3 k x0 x1 x2 x3 x9 x12 bt190.1 true)) else (none)) else (none)))) else (if x12 = x9 then (some (bt190.1 == 0)) else (some false)))) else (some false)
def chamberlainlaw09_RunsOrder.j3 : Nat → List (S25) → Int → Int → Int → Int → Int → Int → Bool → Option (Bool)
  | 0, _, _, _, _, _, _, _, _ => none
  | k + 1, x0, x1, x2, x3, x9, x12, x13, x128 => if x128 = true then (some false) else (if 0 ≤ x13 then (if x13 < (x0.length : Int) then ((runs_Set.f x0 x13 ((rd_T25 x0 x13).f0) ((rd_T25 x0 x13).f1) ((rd_T25 x0 x13).f2) ((rd_T25 x0 x13).f3) ((rd_T25 x0 x13).f4) ((rd_T25 x0 x13).f5) ((rd_T25 x0 x13).f6) ((rd_T25 x0 x13).f7) (wrap64 (1 + (Int.tmod ((rd_T25 x0 x13).f8) 3)))).bind fun bt197 => ((runs_Next.f k bt197.1 x13 x1 x2 x3).bind fun bt201 => ((runs_Next.f k x0 (wrap64 (x13 + 1)) x1 x2 x3).bind fun bt203 => (if bt197.2 = 0 then (if (bt197.1.length : Int) = (x0.length : Int) then (if (bt201.2 != bt203.2) = true then (chamberlainlaw09_RunsOrder.j4 k x0 x1 x2 x3 x9 x12 x13 bt197.1 true) else (chamberlainlaw09_RunsOrder.j4 k x0 x1 x2 x3 x9 x12 x13 bt197.1 (bt201.1 != bt203.1))) else (chamberlainlaw09_RunsOrder.j4 k x0 x1 x2 x3 x9 x12 x13 bt197.1 true)) else (chamberlainlaw09_RunsOrder.j4 k x0 x1 x2 x3 x9 x12 x13 bt197.1 true))))) else (none)) else (none))
def chamberlainlaw09_RunsOrder.j4 : Nat → List (S25) → Int → Int → Int → Int → Int → Int → List (S25) → Bool → Option (Bool)
  | 0, _, _, _, _, _, _, _, _, _ => none
  | k + 1, x0, x1, x2, x3, x9, x12, x13, x16, x182 => if x182 = true then (some false) else (chamberlainlaw09_RunsOrder.l2 k x0 x1 x2 x3 x9 x12 x13 x16 0)
def chamberlainlaw09_RunsOrder.l2 : Nat → List (S25) → Int → Int → Int → Int → Int → Int → List (S25) → Int → Option (Bool)
  | 0, _, _, _, _, _, _, _, _, _ => none
  | k + 1, x0, x1, x2, x3, x9, x12, x13, x16, x22 => if x22 < (x0.length : Int) then (if x22 = x13 then (chamberlainlaw09_RunsOrder.l2 k x0 x1 x2 x3 x9 x12 x13 x16 (wrap64 (x22 + 1))) else (if 0 ≤ x22 then (if x22 < (x16.length : Int) then (if (!(((rd_T25 x16 x22).f0) == ((rd_T25 x0 x22).f0)) || (!(((rd_T25 x16 x22).f1) == ((rd_T25 x0 x22).f1)) || (!(((rd_T25 x16 x22).f2) == ((rd_T25 x0 x22).f2)) || (!(((rd_T25 x16 x22).f3) == ((rd_T25 x0 x22).f3)) || (!(((rd_T25 x16 x22).f4) == ((rd_T25 x0 x22).f4)) || (!(((rd_T25 x16 x22).f5) == ((rd_T25 x0 x22).f5)) || (!(((rd_T25 x16 x22).f6) == ((rd_T25 x0 x22).f6)) || (!(((rd_T25 x16 x22).f7) == ((rd_T25 x0 x22).f7)) || (!(((rd_T25 x16 x22).f8) == ((rd_T25 x0 x22).f8))))))))))) = true then (some false) else (chamberlainlaw09_RunsOrder.l2 k x0 x1 x2 x3 x9 x12 x13 x16 (wrap64 (x22 + 1)))) else (none)) else (none))) else (chamberlainlaw09_RunsOrder.l1 k x0 x1 x2 x3 x9 (wrap64 (x13 + 1)) (wrap64 (x12 + 1)))
end
def chamberlainlaw09_RunsOrder.f (k : Nat) (l0 : List (S25)) (a1 : Int) (a2 : Int) (a3 : Int) : Option (Bool) := (chamberlainlaw09_awake.f k).bind fun t184 => (if t184 = true then (if (l0.length : Int) > 60 then (chamberlainlaw09_RunsOrder.j0 k l0 a1 a2 a3 true) else ((chamberlainref09_Right.f k l0 60).bind fun t185 => (chamberlainlaw09_RunsOrder.j0 k l0 a1 a2 a3 (!t185)))) else (chamberlainlaw09_RunsOrder.j0 k l0 a1 a2 a3 true))
theorem chamberlainlaw09_RunsOrder.mono_l : ∀ k, (∀ y0 y1 y2 y3 y4, LeO (chamberlainlaw09_RunsOrder.j0 k y0 y1 y2 y3 y4) (chamberlainlaw09_RunsOrder.j0 (k + 1) y0 y1 y2 y3 y4)) ∧ (∀ y0 y1 y2 y3 y4 y5, LeO (chamberlainlaw09_RunsOrder.l0 k y0 y1 y2 y3 y4 y5) (chamberlainlaw09_RunsOrder.l0 (k + 1) y0 y1 y2 y3 y4 y5)) ∧ (∀ y0 y1 y2 y3 y4 y5 y6, LeO (chamberlainlaw09_RunsOrder.l1 k y0 y1 y2 y3 y4 y5 y6) (chamberlainlaw09_RunsOrder.l1 (k + 1) y0 y1 y2 y3 y4 y5 y6)) ∧ (∀ y0 y1 y2 y3 y4 y5 y6 y7, LeO (chamberlainlaw09_RunsOrder.j3 k y0 y1 y2 y3 y4 y5 y6 y7) (chamberlainlaw09_RunsOrder.j3 (k + 1) y0 y1 y2 y3 y4 y5 y6 y7)) ∧ (∀ y0 y1 y2 y3 y4 y5 y6 y7 y8, LeO (chamberlainlaw09_RunsOrder.j4 k y0 y1 y2 y3 y4 y5 y6 y7 y8) (chamberlainlaw09_RunsOrder.j4 (k + 1) y0 y1 y2 y3 y4 y5 y6 y7 y8)) ∧ (∀ y0 y1 y2 y3 y4 y5 y6 y7 y8, LeO (chamberlainlaw09_RunsOrder.l2 k y0 y1 y2 y3 y4 y5 y6 y7 y8) (chamberlainlaw09_RunsOrder.l2 (k + 1) y0 y1 y2 y3 y4 y5 y6 y7 y8))
  | 0 => ⟨fun _ _ _ _ _ r h => by simp [chamberlainlaw09_RunsOrder.j0] at h, fun _ _ _ _ _ _ r h => by simp [chamberlainlaw09_RunsOrder.l0] at h, fun _ _ _ _ _ _ _ r h => by simp [chamberlainlaw09_RunsOrder.l1] at h, fun _ _ _ _ _ _ _ _ r h => by simp [chamberlainlaw09_RunsOrder.j3] at h, fun _ _ _ _ _ _ _ _ _ r h => by simp [chamberlainlaw09_RunsOrder.j4] at h, fun _ _ _ _ _ _ _ _ _ r h => by simp [chamberlainlaw09_RunsOrder.l2] at h⟩
  | k + 1 => by
    obtain ⟨ih0, ih1, ih2, ih3, ih4, ih5⟩ := chamberlainlaw09_RunsOrder.mono_l k
    refine ⟨?_, ?_, ?_, ?_, ?_, ?_⟩
    · intro y0 y1 y2 y3 y4
      unfold chamberlainlaw09_RunsOrder.j0
      repeat' first
      | (with_reducible exact ih0 _ _ _ _ _)
      | (with_reducible exact ih1 _ _ _ _ _ _)
      | (with_reducible exact ih2 _ _ _ _ _ _ _)
      | (with_reducible exact ih3 _ _ _ _ _ _ _ _)
      | (with_reducible exact ih4 _ _ _ _ _ _ _ _ _)
      | (with_reducible exact ih5 _ _ _ _ _ _ _ _ _)
      | (with_reducible exact chamberlainlaw09_awake.mono _)
      | (with_reducible exact chamberlainref09_Right.mono _ _ _)
      | (with_reducible exact runs_Next.mono _ _ _ _ _ _)
      | (with_reducible exact LeO.refl _)
      | (with_reducible exact LeO.none _)
      | (with_reducible refine LeO.ite ?_ ?_)
      | (with_reducible refine LeO.bind ?_ (fun _ => ?_))
      | exact ih0 _ _ _ _ _
      | exact ih1 _ _ _ _ _ _
      | exact ih2 _ _ _ _ _ _ _
      | exact ih3 _ _ _ _ _ _ _ _
      | exact ih4 _ _ _ _ _ _ _ _ _
      | exact ih5 _ _ _ _ _ _ _ _ _
      | exact chamberlainlaw09_awake.mono _
      | exact chamberlainref09_Right.mono _ _ _
      | exact runs_Next.mono _ _ _ _ _ _
      | exact LeO.none _
      | refine LeO.ite ?_ ?_
      | refine LeO.bind ?_ (fun _ => ?_)
    · intro y0 y1 y2 y3 y4 y5
      unfold chamberlainlaw09_RunsOrder.l0
      repeat' first
      | (with_reducible exact ih0 _ _ _ _ _)
      | (with_reducible exact ih1 _ _ _ _ _ _)
      | (with_reducible exact ih2 _ _ _ _ _ _ _)
      | (with_reducible exact ih3 _ _ _ _ _ _ _ _)
      | (with_reducible exact ih4 _ _ _ _ _ _ _ _ _)
      | (with_reducible exact ih5 _ _ _ _ _ _ _ _ _)
      | (with_reducible exact chamberlainlaw09_awake.mono _)
      | (with_reducible exact chamberlainref09_Right.mono _ _ _)
      | (with_reducible exact runs_Next.mono _ _ _ _ _ _)
      | (with_reducible exact LeO.refl _)
      | (with_reducible exact LeO.none _)
      | (with_reducible refine LeO.ite ?_ ?_)
      | (with_reducible refine LeO.bind ?_ (fun _ => ?_))
      | exact ih0 _ _ _ _ _
      | exact ih1 _ _ _ _ _ _
      | exact ih2 _ _ _ _ _ _ _
      | exact ih3 _ _ _ _ _ _ _ _
      | exact ih4 _ _ _ _ _ _ _ _ _
      | exact ih5 _ _ _ _ _ _ _ _ _
      | exact chamberlainlaw09_awake.mono _
      | exact chamberlainref09_Right.mono _ _ _
      | exact runs_Next.mono _ _ _ _ _ _
      | exact LeO.none _
      | refine LeO.ite ?_ ?_
      | refine LeO.bind ?_ (fun _ => ?_)
    · intro y0 y1 y2 y3 y4 y5 y6
      unfold chamberlainlaw09_RunsOrder.l1
      repeat' first
      | (with_reducible exact ih0 _ _ _ _ _)
      | (with_reducible exact ih1 _ _ _ _ _ _)
      | (with_reducible exact ih2 _ _ _ _ _ _ _)
      | (with_reducible exact ih3 _ _ _ _ _ _ _ _)
      | (with_reducible exact ih4 _ _ _ _ _ _ _ _ _)
      | (with_reducible exact ih5 _ _ _ _ _ _ _ _ _)
      | (with_reducible exact chamberlainlaw09_awake.mono _)
      | (with_reducible exact chamberlainref09_Right.mono _ _ _)
      | (with_reducible exact runs_Next.mono _ _ _ _ _ _)
      | (with_reducible exact LeO.refl _)
      | (with_reducible exact LeO.none _)
      | (with_reducible refine LeO.ite ?_ ?_)
      | (with_reducible refine LeO.bind ?_ (fun _ => ?_))
      | exact ih0 _ _ _ _ _
      | exact ih1 _ _ _ _ _ _
      | exact ih2 _ _ _ _ _ _ _
      | exact ih3 _ _ _ _ _ _ _ _
      | exact ih4 _ _ _ _ _ _ _ _ _
      | exact ih5 _ _ _ _ _ _ _ _ _
      | exact chamberlainlaw09_awake.mono _
      | exact chamberlainref09_Right.mono _ _ _
      | exact runs_Next.mono _ _ _ _ _ _
      | exact LeO.none _
      | refine LeO.ite ?_ ?_
      | refine LeO.bind ?_ (fun _ => ?_)
    · intro y0 y1 y2 y3 y4 y5 y6 y7
      unfold chamberlainlaw09_RunsOrder.j3
      repeat' first
      | (with_reducible exact ih0 _ _ _ _ _)
      | (with_reducible exact ih1 _ _ _ _ _ _)
      | (with_reducible exact ih2 _ _ _ _ _ _ _)
      | (with_reducible exact ih3 _ _ _ _ _ _ _ _)
      | (with_reducible exact ih4 _ _ _ _ _ _ _ _ _)
      | (with_reducible exact ih5 _ _ _ _ _ _ _ _ _)
      | (with_reducible exact chamberlainlaw09_awake.mono _)
      | (with_reducible exact chamberlainref09_Right.mono _ _ _)
      | (with_reducible exact runs_Next.mono _ _ _ _ _ _)
      | (with_reducible exact LeO.refl _)
      | (with_reducible exact LeO.none _)
      | (with_reducible refine LeO.ite ?_ ?_)
      | (with_reducible refine LeO.bind ?_ (fun _ => ?_))
      | exact ih0 _ _ _ _ _
      | exact ih1 _ _ _ _ _ _
      | exact ih2 _ _ _ _ _ _ _
      | exact ih3 _ _ _ _ _ _ _ _
      | exact ih4 _ _ _ _ _ _ _ _ _
      | exact ih5 _ _ _ _ _ _ _ _ _
      | exact chamberlainlaw09_awake.mono _
      | exact chamberlainref09_Right.mono _ _ _
      | exact runs_Next.mono _ _ _ _ _ _
      | exact LeO.none _
      | refine LeO.ite ?_ ?_
      | refine LeO.bind ?_ (fun _ => ?_)
    · intro y0 y1 y2 y3 y4 y5 y6 y7 y8
      unfold chamberlainlaw09_RunsOrder.j4
      repeat' first
      | (with_reducible exact ih0 _ _ _ _ _)
      | (with_reducible exact ih1 _ _ _ _ _ _)
      | (with_reducible exact ih2 _ _ _ _ _ _ _)
      | (with_reducible exact ih3 _ _ _ _ _ _ _ _)
      | (with_reducible exact ih4 _ _ _ _ _ _ _ _ _)
      | (with_reducible exact ih5 _ _ _ _ _ _ _ _ _)
      | (with_reducible exact chamberlainlaw09_awake.mono _)
      | (with_reducible exact chamberlainref09_Right.mono _ _ _)
      | (with_reducible exact runs_Next.mono _ _ _ _ _ _)
      | (with_reducible exact LeO.refl _)
      | (with_reducible exact LeO.none _)
      | (with_reducible refine LeO.ite ?_ ?_)
      | (with_reducible refine LeO.bind ?_ (fun _ => ?_))
      | exact ih0 _ _ _ _ _
      | exact ih1 _ _ _ _ _ _
      | exact ih2 _ _ _ _ _ _ _
      | exact ih3 _ _ _ _ _ _ _ _
      | exact ih4 _ _ _ _ _ _ _ _ _
      | exact ih5 _ _ _ _ _ _ _ _ _
      | exact chamberlainlaw09_awake.mono _
      | exact chamberlainref09_Right.mono _ _ _
      | exact runs_Next.mono _ _ _ _ _ _
      | exact LeO.none _
      | refine LeO.ite ?_ ?_
      | refine LeO.bind ?_ (fun _ => ?_)
    · intro y0 y1 y2 y3 y4 y5 y6 y7 y8
      unfold chamberlainlaw09_RunsOrder.l2
      repeat' first
      | (with_reducible exact ih0 _ _ _ _ _)
      | (with_reducible exact ih1 _ _ _ _ _ _)
      | (with_reducible exact ih2 _ _ _ _ _ _ _)
      | (with_reducible exact ih3 _ _ _ _ _ _ _ _)
      | (with_reducible exact ih4 _ _ _ _ _ _ _ _ _)
      | (with_reducible exact ih5 _ _ _ _ _ _ _ _ _)
      | (with_reducible exact chamberlainlaw09_awake.mono _)
      | (with_reducible exact chamberlainref09_Right.mono _ _ _)
      | (with_reducible exact runs_Next.mono _ _ _ _ _ _)
      | (with_reducible exact LeO.refl _)
      | (with_reducible exact LeO.none _)
      | (with_reducible refine LeO.ite ?_ ?_)
      | (with_reducible refine LeO.bind ?_ (fun _ => ?_))
      | exact ih0 _ _ _ _ _
      | exact ih1 _ _ _ _ _ _
      | exact ih2 _ _ _ _ _ _ _
      | exact ih3 _ _ _ _ _ _ _ _
      | exact ih4 _ _ _ _ _ _ _ _ _
      | exact ih5 _ _ _ _ _ _ _ _ _
      | exact chamberlainlaw09_awake.mono _
      | exact chamberlainref09_Right.mono _ _ _
      | exact runs_Next.mono _ _ _ _ _ _
      | exact LeO.none _
      | refine LeO.ite ?_ ?_
      | refine LeO.bind ?_ (fun _ => ?_)
theorem chamberlainlaw09_RunsOrder.mono : ∀ a0 a1 a2 a3 k, LeO (chamberlainlaw09_RunsOrder.f k a0 a1 a2 a3) (chamberlainlaw09_RunsOrder.f (k + 1) a0 a1 a2 a3) := by
  intro a0 a1 a2 a3 k
  obtain ⟨ih0, ih1, ih2, ih3, ih4, ih5⟩ := chamberlainlaw09_RunsOrder.mono_l k
  unfold chamberlainlaw09_RunsOrder.f
  repeat' first
      | (with_reducible exact ih0 _ _ _ _ _)
      | (with_reducible exact ih1 _ _ _ _ _ _)
      | (with_reducible exact ih2 _ _ _ _ _ _ _)
      | (with_reducible exact ih3 _ _ _ _ _ _ _ _)
      | (with_reducible exact ih4 _ _ _ _ _ _ _ _ _)
      | (with_reducible exact ih5 _ _ _ _ _ _ _ _ _)
      | (with_reducible exact chamberlainlaw09_awake.mono _)
      | (with_reducible exact chamberlainref09_Right.mono _ _ _)
      | (with_reducible exact runs_Next.mono _ _ _ _ _ _)
      | (with_reducible exact LeO.refl _)
      | (with_reducible exact LeO.none _)
      | (with_reducible refine LeO.ite ?_ ?_)
      | (with_reducible refine LeO.bind ?_ (fun _ => ?_))
      | exact ih0 _ _ _ _ _
      | exact ih1 _ _ _ _ _ _
      | exact ih2 _ _ _ _ _ _ _
      | exact ih3 _ _ _ _ _ _ _ _
      | exact ih4 _ _ _ _ _ _ _ _ _
      | exact ih5 _ _ _ _ _ _ _ _ _
      | exact chamberlainlaw09_awake.mono _
      | exact chamberlainref09_Right.mono _ _ _
      | exact runs_Next.mono _ _ _ _ _ _
      | exact LeO.none _
      | refine LeO.ite ?_ ?_
      | refine LeO.bind ?_ (fun _ => ?_)
set_option maxHeartbeats 8000000 in
set_option maxRecDepth 100000 in
theorem chamberlainlaw09_RunsOrder.calls (k : Nat) (A0 : Option Addr) (c0 : Nat) (l0 : List (S25)) (a1 : Int) (a2 : Int) (a3 : Int) (r : Bool) (w : World) (hr0 : Kd.C k25 w A0 l0.length l0) (hc0 : l0.length ≤ c0) (h : chamberlainlaw09_RunsOrder.f k l0 a1 a2 a3 = some r) (hT0 : r = true) :
    Calls Try.prog 4 #[.slice A0 l0.length c0, .int .i64 a1, .int .i64 a2, .int .i64 a3] w fun e w' => e = .returned (.bool r) ∧ Below w.heap.size w w' := by
  have hT := Aside0.mk hT0
  clear hT0
  have hu25 := Try.underlying25
  have HR0 := Aside0.mk hr0
  have HC0 := Aside0.mk hc0
  clear hr0 hc0
  have HB := Aside0.mk (Below.refl w.heap.size w)
  have H : ((chamberlainlaw09_awake.f k).bind fun t184 => (if t184 = true then (if (l0.length : Int) > 60 then (chamberlainlaw09_RunsOrder.j0 k l0 a1 a2 a3 true) else ((chamberlainref09_Right.f k l0 60).bind fun t185 => (chamberlainlaw09_RunsOrder.j0 k l0 a1 a2 a3 (!t185)))) else (chamberlainlaw09_RunsOrder.j0 k l0 a1 a2 a3 true))) = some r := h
  clear h
  have HC5 := Aside0.mk H
  clear H
  go_enter Try.func4, Try.ntmps4
  go_upto_region 1 with (fail)
  repeat (go_quiet (fail); go_upto_region 1 with (fail))
  go_cut [34] (fun v34 wc => ∃ (kq : Nat) (x34_4 : Bool), v34 = .bool x34_4 ∧ Aside0 (chamberlainlaw09_RunsOrder.j0 kq l0 a1 a2 a3 x34_4 = some r) ∧ Aside0 (kq ≤ k) ∧ Aside0 (Below w.heap.size w wc))
  case first =>
    have H := HC5.out
    clear HC5
    replace H := Option.bind_eq_some_iff.mp H
    obtain ⟨t184, A60, H⟩ := H
    replace H : (if t184 = true then (if (l0.length : Int) > 60 then (chamberlainlaw09_RunsOrder.j0 k l0 a1 a2 a3 true) else ((chamberlainref09_Right.f k l0 60).bind fun t185 => (chamberlainlaw09_RunsOrder.j0 k l0 a1 a2 a3 (!t185)))) else (chamberlainlaw09_RunsOrder.j0 k l0 a1 a2 a3 true)) = some r := H
    have A6 := Aside0.mk A60
    clear A60
    by_cases c7 : t184 = true
    · subst c7
      have H1 : (if (l0.length : Int) > 60 then (chamberlainlaw09_RunsOrder.j0 k l0 a1 a2 a3 true) else ((chamberlainref09_Right.f k l0 60).bind fun t185 => (chamberlainlaw09_RunsOrder.j0 k l0 a1 a2 a3 (!t185)))) = some r := by rw [if_pos rfl] at H; exact H
      clear H
      have H := H1
      clear H1
      by_cases c8 : (l0.length : Int) > 60
      · rw [if_pos c8] at H
        have c8b0 : decide (60 < (l0.length : Int)) = true := decide_eq_true c8
        have c8b1 : decide (60 < l0.length) = true := decide_eq_true (by omega)
        clear c8
        (first | rw [c8b0] | (simp only [i64_w, i32_w]; rw [c8b0]) | skip)
        have H' := Aside0.mk H
        clear H
        go_wp2_with (first | (go_at_call 7; (with_reducible refine (chamberlainlaw09_awake.calls k  true _ A6.out).mono ?_); rintro e w9 ⟨rfl, hb⟩; have n0_ := Aside0.mk (below_step (by repeat (first | (with_reducible first | exact HB.out | apply below_alloc | apply pw_below_drewN | apply below_drew1) | exact HB.out)) hb); clear HB; have HB := n0_; clear n0_; (try clear hb); (try clear hb2); (try clear hk); (try clear hi)))
        repeat (go_quiet (first | (go_at_call 7; (with_reducible refine (chamberlainlaw09_awake.calls k  true _ A6.out).mono ?_); rintro e w9 ⟨rfl, hb⟩; have n0_ := Aside0.mk (below_step (by repeat (first | (with_reducible first | exact HB.out | apply below_alloc | apply pw_below_drewN | apply below_drew1) | exact HB.out)) hb); clear HB; have HB := n0_; clear n0_; (try clear hb); (try clear hb2); (try clear hk); (try clear hi))); try go_wp2_with (first | (go_at_call 7; (with_reducible refine (chamberlainlaw09_awake.calls k  true _ A6.out).mono ?_); rintro e w9 ⟨rfl, hb⟩; have n0_ := Aside0.mk (below_step (by repeat (first | (with_reducible first | exact HB.out | apply below_alloc | apply pw_below_drewN | apply below_drew1) | exact HB.out)) hb); clear HB; have HB := n0_; clear n0_; (try clear hb); (try clear hb2); (try clear hk); (try clear hi))))
        go_meet
        case rel => exact ⟨_, (true), (by first | rfl | (simp; done) | (simp [*]; done)), H', ⟨by first | omega | exact Nat.le_refl _⟩, ⟨by repeat (first | (with_reducible first | exact HB.out | apply below_alloc | apply pw_below_drewN | apply below_drew1) | exact HB.out)⟩⟩
      · rw [if_neg c8] at H
        have c8b0 : decide (60 < (l0.length : Int)) = false := decide_eq_false c8
        have c8b1 : decide (60 < l0.length) = false := decide_eq_false (by omega)
        clear c8
        (first | rw [c8b0] | (simp only [i64_w, i32_w]; rw [c8b0]) | skip)
        replace H := Option.bind_eq_some_iff.mp H
        obtain ⟨t185, A100, H⟩ := H
        replace H : (chamberlainlaw09_RunsOrder.j0 k l0 a1 a2 a3 (!t185)) = some r := H
        have A10 := Aside0.mk A100
        clear A100
        have H' := Aside0.mk H
        clear H
        go_wp2_with (first | (go_at_call 7; (with_reducible refine (chamberlainlaw09_awake.calls k  true _ A6.out).mono ?_); rintro e w11 ⟨rfl, hb⟩; have n0_ := Aside0.mk (below_step (by repeat (first | (with_reducible first | exact HB.out | apply below_alloc | apply pw_below_drewN | apply below_drew1) | exact HB.out)) hb); clear HB; have HB := n0_; clear n0_; (try clear hb); (try clear hb2); (try clear hk); (try clear hi)) | (go_at_call 9; (with_reducible refine (chamberlainref09_Right.calls k _ _ l0 60 t185 _ ?side1 ?side2 A10.out).mono ?_); (case side1 => repeat (first | exact (Kd.C_below HR0.out HB.out) | (with_reducible refine Kd.C_alloc ?_ _) | (with_reducible refine Kd.C_drewN ?_ _) | (with_reducible refine Kd.C_drew ?_))); (case side2 => exact HC0.out); rintro e w12 ⟨rfl, hb⟩; have n0_ := Aside0.mk (below_step (by repeat (first | (with_reducible first | exact HB.out | apply below_alloc | apply pw_below_drewN | apply below_drew1) | exact HB.out)) hb); clear HB; have HB := n0_; clear n0_; (try clear hb); (try clear hb2); (try clear hk); (try clear hi)))
        repeat (go_quiet (first | (go_at_call 7; (with_reducible refine (chamberlainlaw09_awake.calls k  true _ A6.out).mono ?_); rintro e w11 ⟨rfl, hb⟩; have n0_ := Aside0.mk (below_step (by repeat (first | (with_reducible first | exact HB.out | apply below_alloc | apply pw_below_drewN | apply below_drew1) | exact HB.out)) hb); clear HB; have HB := n0_; clear n0_; (try clear hb); (try clear hb2); (try clear hk); (try clear hi)) | (go_at_call 9; (with_reducible refine (chamberlainref09_Right.calls k _ _ l0 60 t185 _ ?side1 ?side2 A10.out).mono ?_); (case side1 => repeat (first | exact (Kd.C_below HR0.out HB.out) | (with_reducible refine Kd.C_alloc ?_ _) | (with_reducible refine Kd.C_drewN ?_ _) | (with_reducible refine Kd.C_drew ?_))); (case side2 => exact HC0.out); rintro e w12 ⟨rfl, hb⟩; have n0_ := Aside0.mk (below_step (by repeat (first | (with_reducible first | exact HB.out | apply below_alloc | apply pw_below_drewN | apply below_drew1) | exact HB.out)) hb); clear HB; have HB := n0_; clear n0_; (try clear hb); (try clear hb2); (try clear hk); (try clear hi))); try go_wp2_with (first | (go_at_call 7; (with_reducible refine (chamberlainlaw09_awake.calls k  true _ A6.out).mono ?_); rintro e w11 ⟨rfl, hb⟩; have n0_ := Aside0.mk (below_step (by repeat (first | (with_reducible first | exact HB.out | apply below_alloc | apply pw_below_drewN | apply below_drew1) | exact HB.out)) hb); clear HB; have HB := n0_; clear n0_; (try clear hb); (try clear hb2); (try clear hk); (try clear hi)) | (go_at_call 9; (with_reducible refine (chamberlainref09_Right.calls k _ _ l0 60 t185 _ ?side1 ?side2 A10.out).mono ?_); (case side1 => repeat (first | exact (Kd.C_below HR0.out HB.out) | (with_reducible refine Kd.C_alloc ?_ _) | (with_reducible refine Kd.C_drewN ?_ _) | (with_reducible refine Kd.C_drew ?_))); (case side2 => exact HC0.out); rintro e w12 ⟨rfl, hb⟩; have n0_ := Aside0.mk (below_step (by repeat (first | (with_reducible first | exact HB.out | apply below_alloc | apply pw_below_drewN | apply below_drew1) | exact HB.out)) hb); clear HB; have HB := n0_; clear n0_; (try clear hb); (try clear hb2); (try clear hk); (try clear hi))))
        go_meet
        case rel => exact ⟨_, (!t185), (by first | rfl | (simp; done) | (simp [*]; done)), H', ⟨by first | omega | exact Nat.le_refl _⟩, ⟨by repeat (first | (with_reducible first | exact HB.out | apply below_alloc | apply pw_below_drewN | apply below_drew1) | exact HB.out)⟩⟩
    · replace c7 := Bool.eq_false_iff.mpr c7
      subst c7
      have H1 : (chamberlainlaw09_RunsOrder.j0 k l0 a1 a2 a3 true) = some r := by rw [if_neg (show ¬ (false = true) by decide)] at H; exact H
      clear H
      have H := H1
      clear H1
      have H' := Aside0.mk H
      clear H
      go_wp2_with (first | (go_at_call 7; (with_reducible refine (chamberlainlaw09_awake.calls k  false _ A6.out).mono ?_); rintro e w13 ⟨rfl, hb⟩; have n0_ := Aside0.mk (below_step (by repeat (first | (with_reducible first | exact HB.out | apply below_alloc | apply pw_below_drewN | apply below_drew1) | exact HB.out)) hb); clear HB; have HB := n0_; clear n0_; (try clear hb); (try clear hb2); (try clear hk); (try clear hi)))
      repeat (go_quiet (first | (go_at_call 7; (with_reducible refine (chamberlainlaw09_awake.calls k  false _ A6.out).mono ?_); rintro e w13 ⟨rfl, hb⟩; have n0_ := Aside0.mk (below_step (by repeat (first | (with_reducible first | exact HB.out | apply below_alloc | apply pw_below_drewN | apply below_drew1) | exact HB.out)) hb); clear HB; have HB := n0_; clear n0_; (try clear hb); (try clear hb2); (try clear hk); (try clear hi))); try go_wp2_with (first | (go_at_call 7; (with_reducible refine (chamberlainlaw09_awake.calls k  false _ A6.out).mono ?_); rintro e w13 ⟨rfl, hb⟩; have n0_ := Aside0.mk (below_step (by repeat (first | (with_reducible first | exact HB.out | apply below_alloc | apply pw_below_drewN | apply below_drew1) | exact HB.out)) hb); clear HB; have HB := n0_; clear n0_; (try clear hb); (try clear hb2); (try clear hk); (try clear hi))))
      go_meet
      case rel => exact ⟨_, (true), (by first | rfl | (simp; done) | (simp [*]; done)), H', ⟨by first | omega | exact Nat.le_refl _⟩, ⟨by repeat (first | (with_reducible first | exact HB.out | apply below_alloc | apply pw_below_drewN | apply below_drew1) | exact HB.out)⟩⟩
  case rest =>
    clear HC5
    try clear p2
    try clear c4
    try clear c7
    try clear c8
    try clear c8b0
    try clear c8b1
    obtain ⟨kq, x34_4, rfl, HA, HJ4, HB⟩ := hcut
    cases kq with
    | zero => exact absurd HA.out (by simp [chamberlainlaw09_RunsOrder.j0])
    | succ kj4 =>
      have H := HA.out
      clear HA
      simp only [chamberlainlaw09_RunsOrder.j0] at H
      by_cases c14 : x34_4 = true
      · subst c14
        have H1 : ((chamberlainlaw09_awake.f kj4).bind fun t186 => (some t186)) = some r := by rw [if_pos rfl] at H; exact H
        clear H
        have H := H1
        clear H1
        replace H := Option.bind_eq_some_iff.mp H
        obtain ⟨t186, A150, H⟩ := H
        replace H : (some t186) = some r := H
        have A15 := Aside0.mk A150
        clear A150
        obtain rfl := Option.some.inj H
        go_wp2_with (first | (go_at_call 7; (with_reducible refine (chamberlainlaw09_awake.calls kj4  t186 _ A15.out).mono ?_); rintro e w16 ⟨rfl, hb⟩; have n0_ := Aside0.mk (below_step (by repeat (first | (with_reducible first | exact HB.out | apply below_alloc | apply pw_below_drewN | apply below_drew1) | exact HB.out)) hb); clear HB; have HB := n0_; clear n0_; (try clear hb); (try clear hb2); (try clear hk); (try clear hi)))
        repeat (go_quiet (first | (go_at_call 7; (with_reducible refine (chamberlainlaw09_awake.calls kj4  t186 _ A15.out).mono ?_); rintro e w16 ⟨rfl, hb⟩; have n0_ := Aside0.mk (below_step (by repeat (first | (with_reducible first | exact HB.out | apply below_alloc | apply pw_below_drewN | apply below_drew1) | exact HB.out)) hb); clear HB; have HB := n0_; clear n0_; (try clear hb); (try clear hb2); (try clear hk); (try clear hi))); try go_wp2_with (first | (go_at_call 7; (with_reducible refine (chamberlainlaw09_awake.calls kj4  t186 _ A15.out).mono ?_); rintro e w16 ⟨rfl, hb⟩; have n0_ := Aside0.mk (below_step (by repeat (first | (with_reducible first | exact HB.out | apply below_alloc | apply pw_below_drewN | apply below_drew1) | exact HB.out)) hb); clear HB; have HB := n0_; clear n0_; (try clear hb); (try clear hb2); (try clear hk); (try clear hi))))
        go_ret
        exact ⟨by first | rfl | (simp [errW_none, errW_some] <;> rfl) | (simp [*, errW_none, errW_some] <;> rfl), by repeat (first | (with_reducible first | exact HB.out | apply below_alloc | apply pw_below_drewN | apply below_drew1) | exact HB.out)⟩
      · replace c14 := Bool.eq_false_iff.mpr c14
        subst c14
        have H1 : (chamberlainlaw09_RunsOrder.l0 kj4 l0 a1 a2 a3 0 0) = some r := by rw [if_neg (show ¬ (false = true) by decide)] at H; exact H
        clear H
        have H := H1
        clear H1
        have H' := Aside0.mk H
        clear H
        go_wp2
        repeat (go_quiet (fail); try go_wp2)
        go_loopg [9, 10] kj4 (fun kq v9 v10 w' => ∃ (x9_2 : Int) (x10_2 : Int), v9 = .int .i64 x9_2 ∧ v10 = .int .i64 x10_2 ∧ Aside0 (chamberlainlaw09_RunsOrder.l0 kq l0 a1 a2 a3 x9_2 x10_2 = some r) ∧ Aside0 (kq ≤ kj4) ∧ Aside0 (Below w.heap.size w w'))
        case atStart => exact ⟨(0), (0), (by first | rfl | (simp; done) | (simp [*]; done)), (by first | rfl | (simp; done) | (simp [*]; done)), H', ⟨Nat.le_refl _⟩, ⟨by repeat (first | (with_reducible first | exact HB.out | apply below_alloc | apply pw_below_drewN | apply below_drew1) | exact HB.out)⟩⟩
        case round =>
          clear H'
          try clear c1
          try clear p2
          try clear c4
          try clear c7
          try clear c8
          try clear c8b0
          try clear c8b1
          try clear c14
          try clear p2
          obtain ⟨x9_2, x10_2, rfl, rfl, HA, HK2, HB⟩ := hrel
          cases gk with
          | zero => exact absurd HA.out (by simp [chamberlainlaw09_RunsOrder.l0])
          | succ k2 =>
            have H := HA.out
            clear HA
            simp only [chamberlainlaw09_RunsOrder.l0] at H
            by_cases c17 : x10_2 < (l0.length : Int)
            · rw [if_pos c17] at H
              have c17b0 : decide (x10_2 < (l0.length : Int)) = true := decide_eq_true c17
              clear c17
              by_cases c18 : 0 ≤ x10_2
              · rw [if_pos c18] at H
                have c18b0 : decide (0 ≤ x10_2) = true := decide_eq_true c18
                clear c18
                by_cases c19 : ((rd_T25 l0 x10_2).f0) = a1
                · rw [if_pos c19] at H
                  have c19b0 : (((rd_T25 l0 x10_2).f0) == a1) = true := beq_iff_eq.mpr c19
                  have c19b1 : (((rd_T25 l0 x10_2).f0) != a1) = false := bne_eq_false_iff_eq.mpr c19
                  clear c19
                  by_cases c20 : ((rd_T25 l0 x10_2).f1) = a2
                  · rw [if_pos c20] at H
                    have c20b0 : (((rd_T25 l0 x10_2).f1) == a2) = true := beq_iff_eq.mpr c20
                    have c20b1 : (((rd_T25 l0 x10_2).f1) != a2) = false := bne_eq_false_iff_eq.mpr c20
                    clear c20
                    by_cases c21 : ((rd_T25 l0 x10_2).f8) = a3
                    · rw [if_pos c21] at H
                      have c21b0 : (((rd_T25 l0 x10_2).f8) == a3) = true := beq_iff_eq.mpr c21
                      have c21b1 : (((rd_T25 l0 x10_2).f8) != a3) = false := bne_eq_false_iff_eq.mpr c21
                      clear c21
                      have H' := Aside0.mk H
                      clear H
                      have p187 : 0 ≤ (x10_2 : Int) := of_decide_eq_true (by first | (with_reducible assumption) | assumption)
                      have q187 : x10_2 < (l0.length : Int) := of_decide_eq_true (by first | (with_reducible assumption) | assumption)
                      obtain ⟨ad187, e187, hx187_0, hx187_1, hx187_2, hx187_3, hx187_4, hx187_5, hx187_6, hx187_7, hx187_8⟩ := at_T25 HR0.out x10_2 p187 q187
                      cases e187
                      replace hx187_0 := (HB.out.cell (World.block_lt_of_cell? w _ hx187_0)).trans hx187_0
                      replace hx187_1 := (HB.out.cell (World.block_lt_of_cell? w _ hx187_1)).trans hx187_1
                      replace hx187_2 := (HB.out.cell (World.block_lt_of_cell? w _ hx187_2)).trans hx187_2
                      replace hx187_3 := (HB.out.cell (World.block_lt_of_cell? w _ hx187_3)).trans hx187_3
                      replace hx187_4 := (HB.out.cell (World.block_lt_of_cell? w _ hx187_4)).trans hx187_4
                      replace hx187_5 := (HB.out.cell (World.block_lt_of_cell? w _ hx187_5)).trans hx187_5
                      replace hx187_6 := (HB.out.cell (World.block_lt_of_cell? w _ hx187_6)).trans hx187_6
                      replace hx187_7 := (HB.out.cell (World.block_lt_of_cell? w _ hx187_7)).trans hx187_7
                      replace hx187_8 := (HB.out.cell (World.block_lt_of_cell? w _ hx187_8)).trans hx187_8
                      replace p187 := eq_true p187
                      replace q187 := eq_true q187
                      have p188 : 0 ≤ (x10_2 : Int) := of_decide_eq_true (by first | (with_reducible assumption) | assumption)
                      have q188 : x10_2 < (l0.length : Int) := of_decide_eq_true (by first | (with_reducible assumption) | assumption)
                      obtain ⟨ad188, e188, hx188_0, hx188_1, hx188_2, hx188_3, hx188_4, hx188_5, hx188_6, hx188_7, hx188_8⟩ := at_T25 HR0.out x10_2 p188 q188
                      obtain rfl : ad187 = ad188 := (by injection e188)
                      replace hx188_0 := (HB.out.cell (World.block_lt_of_cell? w _ hx188_0)).trans hx188_0
                      replace hx188_1 := (HB.out.cell (World.block_lt_of_cell? w _ hx188_1)).trans hx188_1
                      replace hx188_2 := (HB.out.cell (World.block_lt_of_cell? w _ hx188_2)).trans hx188_2
                      replace hx188_3 := (HB.out.cell (World.block_lt_of_cell? w _ hx188_3)).trans hx188_3
                      replace hx188_4 := (HB.out.cell (World.block_lt_of_cell? w _ hx188_4)).trans hx188_4
                      replace hx188_5 := (HB.out.cell (World.block_lt_of_cell? w _ hx188_5)).trans hx188_5
                      replace hx188_6 := (HB.out.cell (World.block_lt_of_cell? w _ hx188_6)).trans hx188_6
                      replace hx188_7 := (HB.out.cell (World.block_lt_of_cell? w _ hx188_7)).trans hx188_7
                      replace hx188_8 := (HB.out.cell (World.block_lt_of_cell? w _ hx188_8)).trans hx188_8
                      replace p188 := eq_true p188
                      replace q188 := eq_true q188
                      have p189 : 0 ≤ (x10_2 : Int) := of_decide_eq_true (by first | (with_reducible assumption) | assumption)
                      have q189 : x10_2 < (l0.length : Int) := of_decide_eq_true (by first | (with_reducible assumption) | assumption)
                      obtain ⟨ad189, e189, hx189_0, hx189_1, hx189_2, hx189_3, hx189_4, hx189_5, hx189_6, hx189_7, hx189_8⟩ := at_T25 HR0.out x10_2 p189 q189
                      obtain rfl : ad187 = ad189 := (by injection e189)
                      replace hx189_0 := (HB.out.cell (World.block_lt_of_cell? w _ hx189_0)).trans hx189_0
                      replace hx189_1 := (HB.out.cell (World.block_lt_of_cell? w _ hx189_1)).trans hx189_1
                      replace hx189_2 := (HB.out.cell (World.block_lt_of_cell? w _ hx189_2)).trans hx189_2
                      replace hx189_3 := (HB.out.cell (World.block_lt_of_cell? w _ hx189_3)).trans hx189_3
                      replace hx189_4 := (HB.out.cell (World.block_lt_of_cell? w _ hx189_4)).trans hx189_4
                      replace hx189_5 := (HB.out.cell (World.block_lt_of_cell? w _ hx189_5)).trans hx189_5
                      replace hx189_6 := (HB.out.cell (World.block_lt_of_cell? w _ hx189_6)).trans hx189_6
                      replace hx189_7 := (HB.out.cell (World.block_lt_of_cell? w _ hx189_7)).trans hx189_7
                      replace hx189_8 := (HB.out.cell (World.block_lt_of_cell? w _ hx189_8)).trans hx189_8
                      replace p189 := eq_true p189
                      replace q189 := eq_true q189
                      go_wp2
                      repeat (go_quiet (fail); try go_wp2)
                      go_roundg k2
                      case measure => have := HJ4.out; have := HK2.out; omega
                      case rel => exact ⟨(wrap64 (x9_2 + 1)), (wrap64 (x10_2 + 1)), (by first | rfl | (simp; done) | (simp [*]; done)), (by first | rfl | (simp; done) | (simp [*]; done)), H', ⟨by have := HJ4.out; have := HK2.out; omega⟩, ⟨by repeat (first | (with_reducible first | exact HB.out | apply below_alloc | apply pw_below_drewN | apply below_drew1) | exact HB.out)⟩⟩
                    · rw [if_neg c21] at H
                      have c21b0 : (((rd_T25 l0 x10_2).f8) == a3) = false := beq_eq_false_iff_ne.mpr c21
                      have c21b1 : (((rd_T25 l0 x10_2).f8) != a3) = true := bne_iff_ne.mpr c21
                      have H' := Aside0.mk H
                      clear H
                      have p187 : 0 ≤ (x10_2 : Int) := of_decide_eq_true (by first | (with_reducible assumption) | assumption)
                      have q187 : x10_2 < (l0.length : Int) := of_decide_eq_true (by first | (with_reducible assumption) | assumption)
                      obtain ⟨ad187, e187, hx187_0, hx187_1, hx187_2, hx187_3, hx187_4, hx187_5, hx187_6, hx187_7, hx187_8⟩ := at_T25 HR0.out x10_2 p187 q187
                      cases e187
                      replace hx187_0 := (HB.out.cell (World.block_lt_of_cell? w _ hx187_0)).trans hx187_0
                      replace hx187_1 := (HB.out.cell (World.block_lt_of_cell? w _ hx187_1)).trans hx187_1
                      replace hx187_2 := (HB.out.cell (World.block_lt_of_cell? w _ hx187_2)).trans hx187_2
                      replace hx187_3 := (HB.out.cell (World.block_lt_of_cell? w _ hx187_3)).trans hx187_3
                      replace hx187_4 := (HB.out.cell (World.block_lt_of_cell? w _ hx187_4)).trans hx187_4
                      replace hx187_5 := (HB.out.cell (World.block_lt_of_cell? w _ hx187_5)).trans hx187_5
                      replace hx187_6 := (HB.out.cell (World.block_lt_of_cell? w _ hx187_6)).trans hx187_6
                      replace hx187_7 := (HB.out.cell (World.block_lt_of_cell? w _ hx187_7)).trans hx187_7
                      replace hx187_8 := (HB.out.cell (World.block_lt_of_cell? w _ hx187_8)).trans hx187_8
                      replace p187 := eq_true p187
                      replace q187 := eq_true q187
                      have p188 : 0 ≤ (x10_2 : Int) := of_decide_eq_true (by first | (with_reducible assumption) | assumption)
                      have q188 : x10_2 < (l0.length : Int) := of_decide_eq_true (by first | (with_reducible assumption) | assumption)
                      obtain ⟨ad188, e188, hx188_0, hx188_1, hx188_2, hx188_3, hx188_4, hx188_5, hx188_6, hx188_7, hx188_8⟩ := at_T25 HR0.out x10_2 p188 q188
                      obtain rfl : ad187 = ad188 := (by injection e188)
                      replace hx188_0 := (HB.out.cell (World.block_lt_of_cell? w _ hx188_0)).trans hx188_0
                      replace hx188_1 := (HB.out.cell (World.block_lt_of_cell? w _ hx188_1)).trans hx188_1
                      replace hx188_2 := (HB.out.cell (World.block_lt_of_cell? w _ hx188_2)).trans hx188_2
                      replace hx188_3 := (HB.out.cell (World.block_lt_of_cell? w _ hx188_3)).trans hx188_3
                      replace hx188_4 := (HB.out.cell (World.block_lt_of_cell? w _ hx188_4)).trans hx188_4
                      replace hx188_5 := (HB.out.cell (World.block_lt_of_cell? w _ hx188_5)).trans hx188_5
                      replace hx188_6 := (HB.out.cell (World.block_lt_of_cell? w _ hx188_6)).trans hx188_6
                      replace hx188_7 := (HB.out.cell (World.block_lt_of_cell? w _ hx188_7)).trans hx188_7
                      replace hx188_8 := (HB.out.cell (World.block_lt_of_cell? w _ hx188_8)).trans hx188_8
                      replace p188 := eq_true p188
                      replace q188 := eq_true q188
                      have p189 : 0 ≤ (x10_2 : Int) := of_decide_eq_true (by first | (with_reducible assumption) | assumption)
                      have q189 : x10_2 < (l0.length : Int) := of_decide_eq_true (by first | (with_reducible assumption) | assumption)
                      obtain ⟨ad189, e189, hx189_0, hx189_1, hx189_2, hx189_3, hx189_4, hx189_5, hx189_6, hx189_7, hx189_8⟩ := at_T25 HR0.out x10_2 p189 q189
                      obtain rfl : ad187 = ad189 := (by injection e189)
                      replace hx189_0 := (HB.out.cell (World.block_lt_of_cell? w _ hx189_0)).trans hx189_0
                      replace hx189_1 := (HB.out.cell (World.block_lt_of_cell? w _ hx189_1)).trans hx189_1
                      replace hx189_2 := (HB.out.cell (World.block_lt_of_cell? w _ hx189_2)).trans hx189_2
                      replace hx189_3 := (HB.out.cell (World.block_lt_of_cell? w _ hx189_3)).trans hx189_3
                      replace hx189_4 := (HB.out.cell (World.block_lt_of_cell? w _ hx189_4)).trans hx189_4
                      replace hx189_5 := (HB.out.cell (World.block_lt_of_cell? w _ hx189_5)).trans hx189_5
                      replace hx189_6 := (HB.out.cell (World.block_lt_of_cell? w _ hx189_6)).trans hx189_6
                      replace hx189_7 := (HB.out.cell (World.block_lt_of_cell? w _ hx189_7)).trans hx189_7
                      replace hx189_8 := (HB.out.cell (World.block_lt_of_cell? w _ hx189_8)).trans hx189_8
                      replace p189 := eq_true p189
                      replace q189 := eq_true q189
                      go_wp2
                      repeat (go_quiet (fail); try go_wp2)
                      go_roundg k2
                      case measure => have := HJ4.out; have := HK2.out; omega
                      case rel => exact ⟨(x9_2), (wrap64 (x10_2 + 1)), (by first | rfl | (simp; done) | (simp [*]; done)), (by first | rfl | (simp; done) | (simp [*]; done)), H', ⟨by have := HJ4.out; have := HK2.out; omega⟩, ⟨by repeat (first | (with_reducible first | exact HB.out | apply below_alloc | apply pw_below_drewN | apply below_drew1) | exact HB.out)⟩⟩
                  · rw [if_neg c20] at H
                    have c20b0 : (((rd_T25 l0 x10_2).f1) == a2) = false := beq_eq_false_iff_ne.mpr c20
                    have c20b1 : (((rd_T25 l0 x10_2).f1) != a2) = true := bne_iff_ne.mpr c20
                    have H' := Aside0.mk H
                    clear H
                    have p187 : 0 ≤ (x10_2 : Int) := of_decide_eq_true (by first | (with_reducible assumption) | assumption)
                    have q187 : x10_2 < (l0.length : Int) := of_decide_eq_true (by first | (with_reducible assumption) | assumption)
                    obtain ⟨ad187, e187, hx187_0, hx187_1, hx187_2, hx187_3, hx187_4, hx187_5, hx187_6, hx187_7, hx187_8⟩ := at_T25 HR0.out x10_2 p187 q187
                    cases e187
                    replace hx187_0 := (HB.out.cell (World.block_lt_of_cell? w _ hx187_0)).trans hx187_0
                    replace hx187_1 := (HB.out.cell (World.block_lt_of_cell? w _ hx187_1)).trans hx187_1
                    replace hx187_2 := (HB.out.cell (World.block_lt_of_cell? w _ hx187_2)).trans hx187_2
                    replace hx187_3 := (HB.out.cell (World.block_lt_of_cell? w _ hx187_3)).trans hx187_3
                    replace hx187_4 := (HB.out.cell (World.block_lt_of_cell? w _ hx187_4)).trans hx187_4
                    replace hx187_5 := (HB.out.cell (World.block_lt_of_cell? w _ hx187_5)).trans hx187_5
                    replace hx187_6 := (HB.out.cell (World.block_lt_of_cell? w _ hx187_6)).trans hx187_6
                    replace hx187_7 := (HB.out.cell (World.block_lt_of_cell? w _ hx187_7)).trans hx187_7
                    replace hx187_8 := (HB.out.cell (World.block_lt_of_cell? w _ hx187_8)).trans hx187_8
                    replace p187 := eq_true p187
                    replace q187 := eq_true q187
                    have p188 : 0 ≤ (x10_2 : Int) := of_decide_eq_true (by first | (with_reducible assumption) | assumption)
                    have q188 : x10_2 < (l0.length : Int) := of_decide_eq_true (by first | (with_reducible assumption) | assumption)
                    obtain ⟨ad188, e188, hx188_0, hx188_1, hx188_2, hx188_3, hx188_4, hx188_5, hx188_6, hx188_7, hx188_8⟩ := at_T25 HR0.out x10_2 p188 q188
                    obtain rfl : ad187 = ad188 := (by injection e188)
                    replace hx188_0 := (HB.out.cell (World.block_lt_of_cell? w _ hx188_0)).trans hx188_0
                    replace hx188_1 := (HB.out.cell (World.block_lt_of_cell? w _ hx188_1)).trans hx188_1
                    replace hx188_2 := (HB.out.cell (World.block_lt_of_cell? w _ hx188_2)).trans hx188_2
                    replace hx188_3 := (HB.out.cell (World.block_lt_of_cell? w _ hx188_3)).trans hx188_3
                    replace hx188_4 := (HB.out.cell (World.block_lt_of_cell? w _ hx188_4)).trans hx188_4
                    replace hx188_5 := (HB.out.cell (World.block_lt_of_cell? w _ hx188_5)).trans hx188_5
                    replace hx188_6 := (HB.out.cell (World.block_lt_of_cell? w _ hx188_6)).trans hx188_6
                    replace hx188_7 := (HB.out.cell (World.block_lt_of_cell? w _ hx188_7)).trans hx188_7
                    replace hx188_8 := (HB.out.cell (World.block_lt_of_cell? w _ hx188_8)).trans hx188_8
                    replace p188 := eq_true p188
                    replace q188 := eq_true q188
                    go_wp2
                    repeat (go_quiet (fail); try go_wp2)
                    go_roundg k2
                    case measure => have := HJ4.out; have := HK2.out; omega
                    case rel => exact ⟨(x9_2), (wrap64 (x10_2 + 1)), (by first | rfl | (simp; done) | (simp [*]; done)), (by first | rfl | (simp; done) | (simp [*]; done)), H', ⟨by have := HJ4.out; have := HK2.out; omega⟩, ⟨by repeat (first | (with_reducible first | exact HB.out | apply below_alloc | apply pw_below_drewN | apply below_drew1) | exact HB.out)⟩⟩
                · rw [if_neg c19] at H
                  have c19b0 : (((rd_T25 l0 x10_2).f0) == a1) = false := beq_eq_false_iff_ne.mpr c19
                  have c19b1 : (((rd_T25 l0 x10_2).f0) != a1) = true := bne_iff_ne.mpr c19
                  have H' := Aside0.mk H
                  clear H
                  have p187 : 0 ≤ (x10_2 : Int) := of_decide_eq_true (by first | (with_reducible assumption) | assumption)
                  have q187 : x10_2 < (l0.length : Int) := of_decide_eq_true (by first | (with_reducible assumption) | assumption)
                  obtain ⟨ad187, e187, hx187_0, hx187_1, hx187_2, hx187_3, hx187_4, hx187_5, hx187_6, hx187_7, hx187_8⟩ := at_T25 HR0.out x10_2 p187 q187
                  cases e187
                  replace hx187_0 := (HB.out.cell (World.block_lt_of_cell? w _ hx187_0)).trans hx187_0
                  replace hx187_1 := (HB.out.cell (World.block_lt_of_cell? w _ hx187_1)).trans hx187_1
                  replace hx187_2 := (HB.out.cell (World.block_lt_of_cell? w _ hx187_2)).trans hx187_2
                  replace hx187_3 := (HB.out.cell (World.block_lt_of_cell? w _ hx187_3)).trans hx187_3
                  replace hx187_4 := (HB.out.cell (World.block_lt_of_cell? w _ hx187_4)).trans hx187_4
                  replace hx187_5 := (HB.out.cell (World.block_lt_of_cell? w _ hx187_5)).trans hx187_5
                  replace hx187_6 := (HB.out.cell (World.block_lt_of_cell? w _ hx187_6)).trans hx187_6
                  replace hx187_7 := (HB.out.cell (World.block_lt_of_cell? w _ hx187_7)).trans hx187_7
                  replace hx187_8 := (HB.out.cell (World.block_lt_of_cell? w _ hx187_8)).trans hx187_8
                  replace p187 := eq_true p187
                  replace q187 := eq_true q187
                  go_wp2
                  repeat (go_quiet (fail); try go_wp2)
                  go_roundg k2
                  case measure => have := HJ4.out; have := HK2.out; omega
                  case rel => exact ⟨(x9_2), (wrap64 (x10_2 + 1)), (by first | rfl | (simp; done) | (simp [*]; done)), (by first | rfl | (simp; done) | (simp [*]; done)), H', ⟨by have := HJ4.out; have := HK2.out; omega⟩, ⟨by repeat (first | (with_reducible first | exact HB.out | apply below_alloc | apply pw_below_drewN | apply below_drew1) | exact HB.out)⟩⟩
              · rw [if_neg c18] at H
                exact absurd H (by simp)
            · rw [if_neg c17] at H
              have c17b0 : decide (x10_2 < (l0.length : Int)) = false := decide_eq_false c17
              clear c17
              have H' := Aside0.mk H
              clear H
              go_wp2
              repeat (go_quiet (fail); try go_wp2)
              go_loopg [11, 12] k2 (fun kq v11 v12 w' => ∃ (x11_3 : Int) (x12_3 : Int), v11 = .int .i64 x11_3 ∧ v12 = .int .i64 x12_3 ∧ Aside0 (chamberlainlaw09_RunsOrder.l1 kq l0 a1 a2 a3 x9_2 x11_3 x12_3 = some r) ∧ Aside0 (kq ≤ k2) ∧ Aside0 (Below w.heap.size w w'))
              case atStart => exact ⟨(0), (0), (by first | rfl | (simp; done) | (simp [*]; done)), (by first | rfl | (simp; done) | (simp [*]; done)), H', ⟨Nat.le_refl _⟩, ⟨by repeat (first | (with_reducible first | exact HB.out | apply below_alloc | apply pw_below_drewN | apply below_drew1) | exact HB.out)⟩⟩
              case round =>
                clear H'
                try clear c1
                try clear p1
                try clear q1
                try clear hx1
                try clear c2
                try clear p2
                try clear c4
                try clear p6
                try clear c7
                try clear c8
                try clear c8b0
                try clear c8b1
                try clear c14
                try clear c17
                try clear c17b0
                try clear c18
                try clear c18b0
                try clear p18
                try clear q18
                try clear hx18
                try clear c19
                try clear c19b0
                try clear c19b1
                try clear c20
                try clear c20b0
                try clear c20b1
                try clear c21
                try clear c21b0
                try clear c21b1
                try clear hx187_0
                try clear hx187_1
                try clear hx187_2
                try clear hx187_3
                try clear hx187_4
                try clear hx187_5
                try clear hx187_6
                try clear hx187_7
                try clear hx187_8
                try clear hx188_0
                try clear hx188_1
                try clear hx188_2
                try clear hx188_3
                try clear hx188_4
                try clear hx188_5
                try clear hx188_6
                try clear hx188_7
                try clear hx188_8
                try clear hx189_0
                try clear hx189_1
                try clear hx189_2
                try clear hx189_3
                try clear hx189_4
                try clear hx189_5
                try clear hx189_6
                try clear hx189_7
                try clear hx189_8
                try clear p187
                try clear p188
                try clear p189
                try clear p2
                try clear q187
                try clear q188
                try clear q189
                obtain ⟨x11_3, x12_3, rfl, rfl, HA, HK3, HB⟩ := hrel
                cases gk with
                | zero => exact absurd HA.out (by simp [chamberlainlaw09_RunsOrder.l1])
                | succ k3 =>
                  have H := HA.out
                  clear HA
                  simp only [chamberlainlaw09_RunsOrder.l1] at H
                  by_cases c22 : x12_3 ≤ (l0.length : Int)
                  · rw [if_pos c22] at H
                    have c22b0 : decide (x12_3 ≤ (l0.length : Int)) = true := decide_eq_true c22
                    clear c22
                    replace H := Option.bind_eq_some_iff.mp H
                    obtain ⟨⟨t190, t191⟩, A230, H⟩ := H
                    replace H : (if t191 = true then (if t190 < x11_3 then (chamberlainlaw09_RunsOrder.j3 k3 l0 a1 a2 a3 x9_2 x12_3 t190 true) else (if t190 ≥ (l0.length : Int) then (chamberlainlaw09_RunsOrder.j3 k3 l0 a1 a2 a3 x9_2 x12_3 t190 true) else (if 0 ≤ t190 then (if t190 < (l0.length : Int) then (if ((rd_T25 l0 t190).f0) = a1 then (if ((rd_T25 l0 t190).f1) = a2 then (chamberlainlaw09_RunsOrder.j3 k3 l0 a1 a2 a3 x9_2 x12_3 t190 (((rd_T25 l0 t190).f8) != a3)) else (chamberlainlaw09_RunsOrder.j3 k3 l0 a1 a2 a3 x9_2 x12_3 t190 true)) else (chamberlainlaw09_RunsOrder.j3 k3 l0 a1 a2 a3 x9_2 x12_3 t190 true)) else (none)) else (none)))) else (if x12_3 = x9_2 then (some (t190 == 0)) else (some false))) = some r := H
                    have A23 := Aside0.mk A230
                    clear A230
                    by_cases c24 : t191 = true
                    · subst c24
                      have H1 : (if t190 < x11_3 then (chamberlainlaw09_RunsOrder.j3 k3 l0 a1 a2 a3 x9_2 x12_3 t190 true) else (if t190 ≥ (l0.length : Int) then (chamberlainlaw09_RunsOrder.j3 k3 l0 a1 a2 a3 x9_2 x12_3 t190 true) else (if 0 ≤ t190 then (if t190 < (l0.length : Int) then (if ((rd_T25 l0 t190).f0) = a1 then (if ((rd_T25 l0 t190).f1) = a2 then (chamberlainlaw09_RunsOrder.j3 k3 l0 a1 a2 a3 x9_2 x12_3 t190 (((rd_T25 l0 t190).f8) != a3)) else (chamberlainlaw09_RunsOrder.j3 k3 l0 a1 a2 a3 x9_2 x12_3 t190 true)) else (chamberlainlaw09_RunsOrder.j3 k3 l0 a1 a2 a3 x9_2 x12_3 t190 true)) else (none)) else (none)))) = some r := by rw [if_pos rfl] at H; exact H
                      clear H
                      have H := H1
                      clear H1
                      have HC25 := Aside0.mk H
                      clear H
                      go_upto_region 16 with (first | (go_at_call 16; (with_reducible refine (runs_Next.calls k3 _ _ l0 x11_3 a1 a2 a3 t190 true _ ?side1 ?side2 A23.out).mono ?_); (case side1 => repeat (first | exact (Kd.C_below HR0.out HB.out) | (with_reducible refine Kd.C_alloc ?_ _) | (with_reducible refine Kd.C_drewN ?_ _) | (with_reducible refine Kd.C_drew ?_))); (case side2 => exact HC0.out); rintro e w26 ⟨rfl, hb⟩; have n0_ := Aside0.mk (below_step (by repeat (first | (with_reducible first | exact HB.out | apply below_alloc | apply pw_below_drewN | apply below_drew1) | exact HB.out)) hb); clear HB; have HB := n0_; clear n0_; (try clear hb); (try clear hb2); (try clear hk); (try clear hi)))
                      repeat (go_quiet (first | (go_at_call 16; (with_reducible refine (runs_Next.calls k3 _ _ l0 x11_3 a1 a2 a3 t190 true _ ?side1 ?side2 A23.out).mono ?_); (case side1 => repeat (first | exact (Kd.C_below HR0.out HB.out) | (with_reducible refine Kd.C_alloc ?_ _) | (with_reducible refine Kd.C_drewN ?_ _) | (with_reducible refine Kd.C_drew ?_))); (case side2 => exact HC0.out); rintro e w26 ⟨rfl, hb⟩; have n0_ := Aside0.mk (below_step (by repeat (first | (with_reducible first | exact HB.out | apply below_alloc | apply pw_below_drewN | apply below_drew1) | exact HB.out)) hb); clear HB; have HB := n0_; clear n0_; (try clear hb); (try clear hb2); (try clear hk); (try clear hi))); go_upto_region 16 with (first | (go_at_call 16; (with_reducible refine (runs_Next.calls k3 _ _ l0 x11_3 a1 a2 a3 t190 true _ ?side1 ?side2 A23.out).mono ?_); (case side1 => repeat (first | exact (Kd.C_below HR0.out HB.out) | (with_reducible refine Kd.C_alloc ?_ _) | (with_reducible refine Kd.C_drewN ?_ _) | (with_reducible refine Kd.C_drew ?_))); (case side2 => exact HC0.out); rintro e w26 ⟨rfl, hb⟩; have n0_ := Aside0.mk (below_step (by repeat (first | (with_reducible first | exact HB.out | apply below_alloc | apply pw_below_drewN | apply below_drew1) | exact HB.out)) hb); clear HB; have HB := n0_; clear n0_; (try clear hb); (try clear hb2); (try clear hk); (try clear hi))))
                      (try simp only [Act.put, List.setIfInBounds_toArray, List.set_cons_zero, List.set_cons_succ])
                      go_cut [128] (fun v128 wc => ∃ (kq : Nat) (x128_24 : Bool), v128 = .bool x128_24 ∧ Aside0 (chamberlainlaw09_RunsOrder.j3 kq l0 a1 a2 a3 x9_2 x12_3 t190 x128_24 = some r) ∧ Aside0 (kq ≤ k3) ∧ Aside0 (Below w.heap.size w wc))
                      case first =>
                        have H := HC25.out
                        clear HC25
                        by_cases c27 : t190 < x11_3
                        · rw [if_pos c27] at H
                          have c27b0 : decide (t190 < x11_3) = true := decide_eq_true c27
                          clear c27
                          (first | rw [c27b0] | (simp only [i64_w, i32_w]; rw [c27b0]) | skip)
                          have H' := Aside0.mk H
                          clear H
                          go_wp2
                          repeat (go_quiet (fail); try go_wp2)
                          go_meet
                          case rel => exact ⟨_, (true), (by first | rfl | (simp; done) | (simp [*]; done)), H', ⟨by have := HJ4.out; have := HK2.out; have := HK3.out; first | omega | exact Nat.le_refl _⟩, ⟨by repeat (first | (with_reducible first | exact HB.out | apply below_alloc | apply pw_below_drewN | apply below_drew1) | exact HB.out)⟩⟩
                        · rw [if_neg c27] at H
                          have c27b0 : decide (t190 < x11_3) = false := decide_eq_false c27
                          clear c27
                          (first | rw [c27b0] | (simp only [i64_w, i32_w]; rw [c27b0]) | skip)
                          by_cases c28 : t190 ≥ (l0.length : Int)
                          · rw [if_pos c28] at H
                            have c28b0 : decide ((l0.length : Int) ≤ t190) = true := decide_eq_true c28
                            clear c28
                            have H' := Aside0.mk H
                            clear H
                            go_wp2
                            repeat (go_quiet (fail); try go_wp2)
                            go_meet
                            case rel => exact ⟨_, (true), (by first | rfl | (simp; done) | (simp [*]; done)), H', ⟨by have := HJ4.out; have := HK2.out; have := HK3.out; first | omega | exact Nat.le_refl _⟩, ⟨by repeat (first | (with_reducible first | exact HB.out | apply below_alloc | apply pw_below_drewN | apply below_drew1) | exact HB.out)⟩⟩
                          · rw [if_neg c28] at H
                            have c28b0 : decide ((l0.length : Int) ≤ t190) = false := decide_eq_false c28
                            clear c28
                            by_cases c29 : 0 ≤ t190
                            · rw [if_pos c29] at H
                              have c29b0 : decide (0 ≤ t190) = true := decide_eq_true c29
                              clear c29
                              by_cases c30 : t190 < (l0.length : Int)
                              · rw [if_pos c30] at H
                                have c30b0 : decide (t190 < (l0.length : Int)) = true := decide_eq_true c30
                                clear c30
                                by_cases c31 : ((rd_T25 l0 t190).f0) = a1
                                · rw [if_pos c31] at H
                                  have c31b0 : (((rd_T25 l0 t190).f0) == a1) = true := beq_iff_eq.mpr c31
                                  have c31b1 : (((rd_T25 l0 t190).f0) != a1) = false := bne_eq_false_iff_eq.mpr c31
                                  clear c31
                                  by_cases c32 : ((rd_T25 l0 t190).f1) = a2
                                  · rw [if_pos c32] at H
                                    have c32b0 : (((rd_T25 l0 t190).f1) == a2) = true := beq_iff_eq.mpr c32
                                    have c32b1 : (((rd_T25 l0 t190).f1) != a2) = false := bne_eq_false_iff_eq.mpr c32
                                    clear c32
                                    have H' := Aside0.mk H
                                    clear H
                                    have p192 : 0 ≤ (t190 : Int) := of_decide_eq_true (by first | (with_reducible assumption) | assumption)
                                    have q192 : t190 < (l0.length : Int) := of_decide_eq_true (by first | (with_reducible assumption) | assumption)
                                    obtain ⟨ad192, e192, hx192_0, hx192_1, hx192_2, hx192_3, hx192_4, hx192_5, hx192_6, hx192_7, hx192_8⟩ := at_T25 HR0.out t190 p192 q192
                                    cases e192
                                    replace hx192_0 := (HB.out.cell (World.block_lt_of_cell? w _ hx192_0)).trans hx192_0
                                    replace hx192_1 := (HB.out.cell (World.block_lt_of_cell? w _ hx192_1)).trans hx192_1
                                    replace hx192_2 := (HB.out.cell (World.block_lt_of_cell? w _ hx192_2)).trans hx192_2
                                    replace hx192_3 := (HB.out.cell (World.block_lt_of_cell? w _ hx192_3)).trans hx192_3
                                    replace hx192_4 := (HB.out.cell (World.block_lt_of_cell? w _ hx192_4)).trans hx192_4
                                    replace hx192_5 := (HB.out.cell (World.block_lt_of_cell? w _ hx192_5)).trans hx192_5
                                    replace hx192_6 := (HB.out.cell (World.block_lt_of_cell? w _ hx192_6)).trans hx192_6
                                    replace hx192_7 := (HB.out.cell (World.block_lt_of_cell? w _ hx192_7)).trans hx192_7
                                    replace hx192_8 := (HB.out.cell (World.block_lt_of_cell? w _ hx192_8)).trans hx192_8
                                    replace p192 := eq_true p192
                                    replace q192 := eq_true q192
                                    have p193 : 0 ≤ (t190 : Int) := of_decide_eq_true (by first | (with_reducible assumption) | assumption)
                                    have q193 : t190 < (l0.length : Int) := of_decide_eq_true (by first | (with_reducible assumption) | assumption)
                                    obtain ⟨ad193, e193, hx193_0, hx193_1, hx193_2, hx193_3, hx193_4, hx193_5, hx193_6, hx193_7, hx193_8⟩ := at_T25 HR0.out t190 p193 q193
                                    obtain rfl : ad192 = ad193 := (by injection e193)
                                    replace hx193_0 := (HB.out.cell (World.block_lt_of_cell? w _ hx193_0)).trans hx193_0
                                    replace hx193_1 := (HB.out.cell (World.block_lt_of_cell? w _ hx193_1)).trans hx193_1
                                    replace hx193_2 := (HB.out.cell (World.block_lt_of_cell? w _ hx193_2)).trans hx193_2
                                    replace hx193_3 := (HB.out.cell (World.block_lt_of_cell? w _ hx193_3)).trans hx193_3
                                    replace hx193_4 := (HB.out.cell (World.block_lt_of_cell? w _ hx193_4)).trans hx193_4
                                    replace hx193_5 := (HB.out.cell (World.block_lt_of_cell? w _ hx193_5)).trans hx193_5
                                    replace hx193_6 := (HB.out.cell (World.block_lt_of_cell? w _ hx193_6)).trans hx193_6
                                    replace hx193_7 := (HB.out.cell (World.block_lt_of_cell? w _ hx193_7)).trans hx193_7
                                    replace hx193_8 := (HB.out.cell (World.block_lt_of_cell? w _ hx193_8)).trans hx193_8
                                    replace p193 := eq_true p193
                                    replace q193 := eq_true q193
                                    have p194 : 0 ≤ (t190 : Int) := of_decide_eq_true (by first | (with_reducible assumption) | assumption)
                                    have q194 : t190 < (l0.length : Int) := of_decide_eq_true (by first | (with_reducible assumption) | assumption)
                                    obtain ⟨ad194, e194, hx194_0, hx194_1, hx194_2, hx194_3, hx194_4, hx194_5, hx194_6, hx194_7, hx194_8⟩ := at_T25 HR0.out t190 p194 q194
                                    obtain rfl : ad192 = ad194 := (by injection e194)
                                    replace hx194_0 := (HB.out.cell (World.block_lt_of_cell? w _ hx194_0)).trans hx194_0
                                    replace hx194_1 := (HB.out.cell (World.block_lt_of_cell? w _ hx194_1)).trans hx194_1
                                    replace hx194_2 := (HB.out.cell (World.block_lt_of_cell? w _ hx194_2)).trans hx194_2
                                    replace hx194_3 := (HB.out.cell (World.block_lt_of_cell? w _ hx194_3)).trans hx194_3
                                    replace hx194_4 := (HB.out.cell (World.block_lt_of_cell? w _ hx194_4)).trans hx194_4
                                    replace hx194_5 := (HB.out.cell (World.block_lt_of_cell? w _ hx194_5)).trans hx194_5
                                    replace hx194_6 := (HB.out.cell (World.block_lt_of_cell? w _ hx194_6)).trans hx194_6
                                    replace hx194_7 := (HB.out.cell (World.block_lt_of_cell? w _ hx194_7)).trans hx194_7
                                    replace hx194_8 := (HB.out.cell (World.block_lt_of_cell? w _ hx194_8)).trans hx194_8
                                    replace p194 := eq_true p194
                                    replace q194 := eq_true q194
                                    go_wp2
                                    repeat (go_quiet (fail); try go_wp2)
                                    go_meet
                                    case rel => exact ⟨_, ((((rd_T25 l0 t190).f8) != a3)), (by first | rfl | (simp; done) | (simp [*]; done)), H', ⟨by have := HJ4.out; have := HK2.out; have := HK3.out; first | omega | exact Nat.le_refl _⟩, ⟨by repeat (first | (with_reducible first | exact HB.out | apply below_alloc | apply pw_below_drewN | apply below_drew1) | exact HB.out)⟩⟩
                                  · rw [if_neg c32] at H
                                    have c32b0 : (((rd_T25 l0 t190).f1) == a2) = false := beq_eq_false_iff_ne.mpr c32
                                    have c32b1 : (((rd_T25 l0 t190).f1) != a2) = true := bne_iff_ne.mpr c32
                                    have H' := Aside0.mk H
                                    clear H
                                    have p192 : 0 ≤ (t190 : Int) := of_decide_eq_true (by first | (with_reducible assumption) | assumption)
                                    have q192 : t190 < (l0.length : Int) := of_decide_eq_true (by first | (with_reducible assumption) | assumption)
                                    obtain ⟨ad192, e192, hx192_0, hx192_1, hx192_2, hx192_3, hx192_4, hx192_5, hx192_6, hx192_7, hx192_8⟩ := at_T25 HR0.out t190 p192 q192
                                    cases e192
                                    replace hx192_0 := (HB.out.cell (World.block_lt_of_cell? w _ hx192_0)).trans hx192_0
                                    replace hx192_1 := (HB.out.cell (World.block_lt_of_cell? w _ hx192_1)).trans hx192_1
                                    replace hx192_2 := (HB.out.cell (World.block_lt_of_cell? w _ hx192_2)).trans hx192_2
                                    replace hx192_3 := (HB.out.cell (World.block_lt_of_cell? w _ hx192_3)).trans hx192_3
                                    replace hx192_4 := (HB.out.cell (World.block_lt_of_cell? w _ hx192_4)).trans hx192_4
                                    replace hx192_5 := (HB.out.cell (World.block_lt_of_cell? w _ hx192_5)).trans hx192_5
                                    replace hx192_6 := (HB.out.cell (World.block_lt_of_cell? w _ hx192_6)).trans hx192_6
                                    replace hx192_7 := (HB.out.cell (World.block_lt_of_cell? w _ hx192_7)).trans hx192_7
                                    replace hx192_8 := (HB.out.cell (World.block_lt_of_cell? w _ hx192_8)).trans hx192_8
                                    replace p192 := eq_true p192
                                    replace q192 := eq_true q192
                                    have p193 : 0 ≤ (t190 : Int) := of_decide_eq_true (by first | (with_reducible assumption) | assumption)
                                    have q193 : t190 < (l0.length : Int) := of_decide_eq_true (by first | (with_reducible assumption) | assumption)
                                    obtain ⟨ad193, e193, hx193_0, hx193_1, hx193_2, hx193_3, hx193_4, hx193_5, hx193_6, hx193_7, hx193_8⟩ := at_T25 HR0.out t190 p193 q193
                                    obtain rfl : ad192 = ad193 := (by injection e193)
                                    replace hx193_0 := (HB.out.cell (World.block_lt_of_cell? w _ hx193_0)).trans hx193_0
                                    replace hx193_1 := (HB.out.cell (World.block_lt_of_cell? w _ hx193_1)).trans hx193_1
                                    replace hx193_2 := (HB.out.cell (World.block_lt_of_cell? w _ hx193_2)).trans hx193_2
                                    replace hx193_3 := (HB.out.cell (World.block_lt_of_cell? w _ hx193_3)).trans hx193_3
                                    replace hx193_4 := (HB.out.cell (World.block_lt_of_cell? w _ hx193_4)).trans hx193_4
                                    replace hx193_5 := (HB.out.cell (World.block_lt_of_cell? w _ hx193_5)).trans hx193_5
                                    replace hx193_6 := (HB.out.cell (World.block_lt_of_cell? w _ hx193_6)).trans hx193_6
                                    replace hx193_7 := (HB.out.cell (World.block_lt_of_cell? w _ hx193_7)).trans hx193_7
                                    replace hx193_8 := (HB.out.cell (World.block_lt_of_cell? w _ hx193_8)).trans hx193_8
                                    replace p193 := eq_true p193
                                    replace q193 := eq_true q193
                                    go_wp2
                                    repeat (go_quiet (fail); try go_wp2)
                                    go_meet
                                    case rel => exact ⟨_, (true), (by first | rfl | (simp; done) | (simp [*]; done)), H', ⟨by have := HJ4.out; have := HK2.out; have := HK3.out; first | omega | exact Nat.le_refl _⟩, ⟨by repeat (first | (with_reducible first | exact HB.out | apply below_alloc | apply pw_below_drewN | apply below_drew1) | exact HB.out)⟩⟩
                                · rw [if_neg c31] at H
                                  have c31b0 : (((rd_T25 l0 t190).f0) == a1) = false := beq_eq_false_iff_ne.mpr c31
                                  have c31b1 : (((rd_T25 l0 t190).f0) != a1) = true := bne_iff_ne.mpr c31
                                  have H' := Aside0.mk H
                                  clear H
                                  have p192 : 0 ≤ (t190 : Int) := of_decide_eq_true (by first | (with_reducible assumption) | assumption)
                                  have q192 : t190 < (l0.length : Int) := of_decide_eq_true (by first | (with_reducible assumption) | assumption)
                                  obtain ⟨ad192, e192, hx192_0, hx192_1, hx192_2, hx192_3, hx192_4, hx192_5, hx192_6, hx192_7, hx192_8⟩ := at_T25 HR0.out t190 p192 q192
                                  cases e192
                                  replace hx192_0 := (HB.out.cell (World.block_lt_of_cell? w _ hx192_0)).trans hx192_0
                                  replace hx192_1 := (HB.out.cell (World.block_lt_of_cell? w _ hx192_1)).trans hx192_1
                                  replace hx192_2 := (HB.out.cell (World.block_lt_of_cell? w _ hx192_2)).trans hx192_2
                                  replace hx192_3 := (HB.out.cell (World.block_lt_of_cell? w _ hx192_3)).trans hx192_3
                                  replace hx192_4 := (HB.out.cell (World.block_lt_of_cell? w _ hx192_4)).trans hx192_4
                                  replace hx192_5 := (HB.out.cell (World.block_lt_of_cell? w _ hx192_5)).trans hx192_5
                                  replace hx192_6 := (HB.out.cell (World.block_lt_of_cell? w _ hx192_6)).trans hx192_6
                                  replace hx192_7 := (HB.out.cell (World.block_lt_of_cell? w _ hx192_7)).trans hx192_7
                                  replace hx192_8 := (HB.out.cell (World.block_lt_of_cell? w _ hx192_8)).trans hx192_8
                                  replace p192 := eq_true p192
                                  replace q192 := eq_true q192
                                  go_wp2
                                  repeat (go_quiet (fail); try go_wp2)
                                  go_meet
                                  case rel => exact ⟨_, (true), (by first | rfl | (simp; done) | (simp [*]; done)), H', ⟨by have := HJ4.out; have := HK2.out; have := HK3.out; first | omega | exact Nat.le_refl _⟩, ⟨by repeat (first | (with_reducible first | exact HB.out | apply below_alloc | apply pw_below_drewN | apply below_drew1) | exact HB.out)⟩⟩
                              · rw [if_neg c30] at H
                                exact absurd H (by simp)
                            · rw [if_neg c29] at H
                              exact absurd H (by simp)
                      case rest =>
                        clear HC25
                        try clear c1
                        try clear p1
                        try clear q1
                        try clear hx1
                        try clear c2
                        try clear p2
                        try clear c3
                        try clear c4
                        try clear p6
                        try clear c7
                        try clear c8
                        try clear c8b0
                        try clear c8b1
                        try clear c14
                        try clear c17
                        try clear c17b0
                        try clear c18
                        try clear c18b0
                        try clear p18
                        try clear q18
                        try clear hx18
                        try clear c19
                        try clear c19b0
                        try clear c19b1
                        try clear p19
                        try clear q19
                        try clear hx19
                        try clear c20
                        try clear c20b0
                        try clear c20b1
                        try clear c21
                        try clear c21b0
                        try clear c21b1
                        try clear c22
                        try clear c22b0
                        try clear c24
                        try clear c27
                        try clear c27b0
                        try clear c28
                        try clear c28b0
                        try clear c29
                        try clear c29b0
                        try clear c30
                        try clear c30b0
                        try clear c31
                        try clear c31b0
                        try clear c31b1
                        try clear c32
                        try clear c32b0
                        try clear c32b1
                        try clear hx187_0
                        try clear hx187_1
                        try clear hx187_2
                        try clear hx187_3
                        try clear hx187_4
                        try clear hx187_5
                        try clear hx187_6
                        try clear hx187_7
                        try clear hx187_8
                        try clear hx188_0
                        try clear hx188_1
                        try clear hx188_2
                        try clear hx188_3
                        try clear hx188_4
                        try clear hx188_5
                        try clear hx188_6
                        try clear hx188_7
                        try clear hx188_8
                        try clear hx189_0
                        try clear hx189_1
                        try clear hx189_2
                        try clear hx189_3
                        try clear hx189_4
                        try clear hx189_5
                        try clear hx189_6
                        try clear hx189_7
                        try clear hx189_8
                        try clear hx192_0
                        try clear hx192_1
                        try clear hx192_2
                        try clear hx192_3
                        try clear hx192_4
                        try clear hx192_5
                        try clear hx192_6
                        try clear hx192_7
                        try clear hx192_8
                        try clear hx193_0
                        try clear hx193_1
                        try clear hx193_2
                        try clear hx193_3
                        try clear hx193_4
                        try clear hx193_5
                        try clear hx193_6
                        try clear hx193_7
                        try clear hx193_8
                        try clear hx194_0
                        try clear hx194_1
                        try clear hx194_2
                        try clear hx194_3
                        try clear hx194_4
                        try clear hx194_5
                        try clear hx194_6
                        try clear hx194_7
                        try clear hx194_8
                        try clear p1
                        try clear p18
                        try clear p187
                        try clear p188
                        try clear p189
                        try clear p192
                        try clear p193
                        try clear p194
                        try clear p2
                        try clear p6
                        try clear q1
                        try clear q18
                        try clear q187
                        try clear q188
                        try clear q189
                        try clear q192
                        try clear q193
                        try clear q194
                        obtain ⟨kq, x128_24, rfl, HA, HJ24, HB⟩ := hcut
                        cases kq with
                        | zero => exact absurd HA.out (by simp [chamberlainlaw09_RunsOrder.j3])
                        | succ kj24 =>
                          have H := HA.out
                          clear HA
                          simp only [chamberlainlaw09_RunsOrder.j3] at H
                          by_cases c33 : x128_24 = true
                          · subst c33
                            have H1 : (some false) = some r := by rw [if_pos rfl] at H; exact H
                            clear H
                            have H := H1
                            clear H1
                            exact absurd (hT.out.symm.trans (Option.some.inj H).symm) (by decide)
                          · replace c33 := Bool.eq_false_iff.mpr c33
                            subst c33
                            have H1 : (if 0 ≤ t190 then (if t190 < (l0.length : Int) then ((runs_Set.f l0 t190 ((rd_T25 l0 t190).f0) ((rd_T25 l0 t190).f1) ((rd_T25 l0 t190).f2) ((rd_T25 l0 t190).f3) ((rd_T25 l0 t190).f4) ((rd_T25 l0 t190).f5) ((rd_T25 l0 t190).f6) ((rd_T25 l0 t190).f7) (wrap64 (1 + (Int.tmod ((rd_T25 l0 t190).f8) 3)))).bind fun bt197 => ((runs_Next.f kj24 bt197.1 t190 a1 a2 a3).bind fun bt201 => ((runs_Next.f kj24 l0 (wrap64 (t190 + 1)) a1 a2 a3).bind fun bt203 => (if bt197.2 = 0 then (if (bt197.1.length : Int) = (l0.length : Int) then (if (bt201.2 != bt203.2) = true then (chamberlainlaw09_RunsOrder.j4 kj24 l0 a1 a2 a3 x9_2 x12_3 t190 bt197.1 true) else (chamberlainlaw09_RunsOrder.j4 kj24 l0 a1 a2 a3 x9_2 x12_3 t190 bt197.1 (bt201.1 != bt203.1))) else (chamberlainlaw09_RunsOrder.j4 kj24 l0 a1 a2 a3 x9_2 x12_3 t190 bt197.1 true)) else (chamberlainlaw09_RunsOrder.j4 kj24 l0 a1 a2 a3 x9_2 x12_3 t190 bt197.1 true))))) else (none)) else (none)) = some r := by rw [if_neg (show ¬ (false = true) by decide)] at H; exact H
                            clear H
                            have H := H1
                            clear H1
                            by_cases c34 : 0 ≤ t190
                            · rw [if_pos c34] at H
                              have c34b0 : decide (0 ≤ t190) = true := decide_eq_true c34
                              clear c34
                              by_cases c35 : t190 < (l0.length : Int)
                              · rw [if_pos c35] at H
                                have c35b0 : decide (t190 < (l0.length : Int)) = true := decide_eq_true c35
                                clear c35
                                replace H := Option.bind_eq_some_iff.mp H
                                obtain ⟨⟨t197, t200⟩, A360, H⟩ := H
                                replace H : ((runs_Next.f kj24 t197 t190 a1 a2 a3).bind fun bt201 => ((runs_Next.f kj24 l0 (wrap64 (t190 + 1)) a1 a2 a3).bind fun bt203 => (if t200 = 0 then (if (t197.length : Int) = (l0.length : Int) then (if (bt201.2 != bt203.2) = true then (chamberlainlaw09_RunsOrder.j4 kj24 l0 a1 a2 a3 x9_2 x12_3 t190 t197 true) else (chamberlainlaw09_RunsOrder.j4 kj24 l0 a1 a2 a3 x9_2 x12_3 t190 t197 (bt201.1 != bt203.1))) else (chamberlainlaw09_RunsOrder.j4 kj24 l0 a1 a2 a3 x9_2 x12_3 t190 t197 true)) else (chamberlainlaw09_RunsOrder.j4 kj24 l0 a1 a2 a3 x9_2 x12_3 t190 t197 true)))) = some r := H
                                have A36 := Aside0.mk A360
                                clear A360
                                replace H := Option.bind_eq_some_iff.mp H
                                obtain ⟨⟨t201, t202⟩, A370, H⟩ := H
                                replace H : ((runs_Next.f kj24 l0 (wrap64 (t190 + 1)) a1 a2 a3).bind fun bt203 => (if t200 = 0 then (if (t197.length : Int) = (l0.length : Int) then (if (t202 != bt203.2) = true then (chamberlainlaw09_RunsOrder.j4 kj24 l0 a1 a2 a3 x9_2 x12_3 t190 t197 true) else (chamberlainlaw09_RunsOrder.j4 kj24 l0 a1 a2 a3 x9_2 x12_3 t190 t197 (t201 != bt203.1))) else (chamberlainlaw09_RunsOrder.j4 kj24 l0 a1 a2 a3 x9_2 x12_3 t190 t197 true)) else (chamberlainlaw09_RunsOrder.j4 kj24 l0 a1 a2 a3 x9_2 x12_3 t190 t197 true))) = some r := H
                                have A37 := Aside0.mk A370
                                clear A370
                                replace H := Option.bind_eq_some_iff.mp H
                                obtain ⟨⟨t203, t204⟩, A380, H⟩ := H
                                replace H : (if t200 = 0 then (if (t197.length : Int) = (l0.length : Int) then (if (t202 != t204) = true then (chamberlainlaw09_RunsOrder.j4 kj24 l0 a1 a2 a3 x9_2 x12_3 t190 t197 true) else (chamberlainlaw09_RunsOrder.j4 kj24 l0 a1 a2 a3 x9_2 x12_3 t190 t197 (t201 != t203))) else (chamberlainlaw09_RunsOrder.j4 kj24 l0 a1 a2 a3 x9_2 x12_3 t190 t197 true)) else (chamberlainlaw09_RunsOrder.j4 kj24 l0 a1 a2 a3 x9_2 x12_3 t190 t197 true)) = some r := H
                                have A38 := Aside0.mk A380
                                clear A380
                                have HC39 := Aside0.mk H
                                clear H
                                have p195 : 0 ≤ (t190 : Int) := of_decide_eq_true (by first | (with_reducible assumption) | assumption)
                                have q195 : t190 < (l0.length : Int) := of_decide_eq_true (by first | (with_reducible assumption) | assumption)
                                obtain ⟨ad195, e195, hx195_0, hx195_1, hx195_2, hx195_3, hx195_4, hx195_5, hx195_6, hx195_7, hx195_8⟩ := at_T25 HR0.out t190 p195 q195
                                cases e195
                                replace hx195_0 := (HB.out.cell (World.block_lt_of_cell? w _ hx195_0)).trans hx195_0
                                replace hx195_1 := (HB.out.cell (World.block_lt_of_cell? w _ hx195_1)).trans hx195_1
                                replace hx195_2 := (HB.out.cell (World.block_lt_of_cell? w _ hx195_2)).trans hx195_2
                                replace hx195_3 := (HB.out.cell (World.block_lt_of_cell? w _ hx195_3)).trans hx195_3
                                replace hx195_4 := (HB.out.cell (World.block_lt_of_cell? w _ hx195_4)).trans hx195_4
                                replace hx195_5 := (HB.out.cell (World.block_lt_of_cell? w _ hx195_5)).trans hx195_5
                                replace hx195_6 := (HB.out.cell (World.block_lt_of_cell? w _ hx195_6)).trans hx195_6
                                replace hx195_7 := (HB.out.cell (World.block_lt_of_cell? w _ hx195_7)).trans hx195_7
                                replace hx195_8 := (HB.out.cell (World.block_lt_of_cell? w _ hx195_8)).trans hx195_8
                                replace p195 := eq_true p195
                                replace q195 := eq_true q195
                                go_upto_region 23 with (first | ((with_reducible refine gate_dst (N := 15) rfl ?_); (try (refine gate_guard (by rfl) ?_; dsimp only)); refine box_event ?hg (N := 15) ?hd (cs := #[.int .i64 0, .int .i64 0, .int .u32 0, .int .u32 0, .int .u32 0, .int .u32 0, .int .u32 0, .int .u32 0, .int .i64 0]) (t := 25) ?hr ?_; (case hd => rfl); (case hg => rfl); (case hr => first | (go_simp; done) | (go_simp; rfl)); intro gb196 hg w40 hbox hb; have n0_ := Aside0.mk (below_step (by repeat (first | (with_reducible first | exact HB.out | apply below_alloc | apply pw_below_drewN | apply below_drew1) | exact HB.out)) hb); have n1_ := Aside0.mk (hbox); have n2_ := Aside0.mk ((by rw [hg]; exact (below_size (by repeat (first | (with_reducible first | exact HB.out | apply below_alloc | apply pw_below_drewN | apply below_drew1) | exact HB.out))) : w.heap.size ≤ gb196)); have n3_ := Aside0.mk ((by rw [hg]; exact (below_size (by repeat (first | (with_reducible first | exact HB.out | apply below_alloc | apply pw_below_drewN | apply below_drew1) | exact HB.out))) : w.heap.size ≤ gb196)); clear HB; have HB := n0_; have BK196 := n1_; have GW196 := n2_; have GE196 := n3_; clear n0_ n1_ n2_ n3_; clear hb hbox hg; have hcz41_0 : w40.cell? ⟨gb196, 0, none⟩ = some (.int .i64 0) := (blk_cell BK196.out 0).trans rfl; have hcz41_1 : w40.cell? ⟨gb196, 1, none⟩ = some (.int .i64 0) := (blk_cell BK196.out 1).trans rfl; have hcz41_2 : w40.cell? ⟨gb196, 2, none⟩ = some (.int .u32 0) := (blk_cell BK196.out 2).trans rfl; have hcz41_3 : w40.cell? ⟨gb196, 3, none⟩ = some (.int .u32 0) := (blk_cell BK196.out 3).trans rfl; have hcz41_4 : w40.cell? ⟨gb196, 4, none⟩ = some (.int .u32 0) := (blk_cell BK196.out 4).trans rfl; have hcz41_5 : w40.cell? ⟨gb196, 5, none⟩ = some (.int .u32 0) := (blk_cell BK196.out 5).trans rfl; have hcz41_6 : w40.cell? ⟨gb196, 6, none⟩ = some (.int .u32 0) := (blk_cell BK196.out 6).trans rfl; have hcz41_7 : w40.cell? ⟨gb196, 7, none⟩ = some (.int .u32 0) := (blk_cell BK196.out 7).trans rfl; have hcz41_8 : w40.cell? ⟨gb196, 8, none⟩ = some (.int .i64 0) := (blk_cell BK196.out 8).trans rfl; have hfz41_0 := blk_frozen BK196.out 0; have hfz41_1 := blk_frozen BK196.out 1; have hfz41_2 := blk_frozen BK196.out 2; have hfz41_3 := blk_frozen BK196.out 3; have hfz41_4 := blk_frozen BK196.out 4; have hfz41_5 := blk_frozen BK196.out 5; have hfz41_6 := blk_frozen BK196.out 6; have hfz41_7 := blk_frozen BK196.out 7; have hfz41_8 := blk_frozen BK196.out 8) | ((with_reducible refine gate_store (t := 25) (p := 15) rfl ?_); (try (rw [drewN_self w40]; generalize hq_ : World.drewN w40 _ = w40; have n0_ := Aside0.mk (blk_at hq_ BK196.out); have n1_ := Aside0.mk (below_at hq_ HB.out); clear hq_ BK196 HB; have BK196 := n0_; have HB := n1_; clear n0_ n1_)); refine store_event (t := 25) (p := 15) (v := ?vo_w42) (w1 := (((((((((w40.setCell ⟨gb196, 0, none⟩ (.int .i64 ((rd_T25 l0 t190).f0))).setCell ⟨gb196, 1, none⟩ (.int .i64 ((rd_T25 l0 t190).f1))).setCell ⟨gb196, 2, none⟩ (.int .u32 ((rd_T25 l0 t190).f2))).setCell ⟨gb196, 3, none⟩ (.int .u32 ((rd_T25 l0 t190).f3))).setCell ⟨gb196, 4, none⟩ (.int .u32 ((rd_T25 l0 t190).f4))).setCell ⟨gb196, 5, none⟩ (.int .u32 ((rd_T25 l0 t190).f5))).setCell ⟨gb196, 6, none⟩ (.int .u32 ((rd_T25 l0 t190).f6))).setCell ⟨gb196, 7, none⟩ (.int .u32 ((rd_T25 l0 t190).f7))).setCell ⟨gb196, 8, none⟩ (.int .i64 ((rd_T25 l0 t190).f8)))) ?hg ?ho ?hn ?hr ?_; (case ho => rfl); (case hg => rfl); (case hn => rfl); (case hr => first | (go_simp; done) | (go_simp; rfl)); intro w42 hw; have n0_ : Aside0 (w42.heap[gb196]? = some (.cells #[.int .i64 ((rd_T25 l0 t190).f0), .int .i64 ((rd_T25 l0 t190).f1), .int .u32 ((rd_T25 l0 t190).f2), .int .u32 ((rd_T25 l0 t190).f3), .int .u32 ((rd_T25 l0 t190).f4), .int .u32 ((rd_T25 l0 t190).f5), .int .u32 ((rd_T25 l0 t190).f6), .int .u32 ((rd_T25 l0 t190).f7), .int .i64 ((rd_T25 l0 t190).f8)] 25 (0, 0))) := ⟨(by rw [hw]; exact (by (with_reducible repeat (first | refine blk_drewN ?_ _ | refine blk_drew ?_ | refine blk_alloc ?_ _)); refine blk_put (cs := #[.int .i64 ((rd_T25 l0 t190).f0), .int .i64 ((rd_T25 l0 t190).f1), .int .u32 ((rd_T25 l0 t190).f2), .int .u32 ((rd_T25 l0 t190).f3), .int .u32 ((rd_T25 l0 t190).f4), .int .u32 ((rd_T25 l0 t190).f5), .int .u32 ((rd_T25 l0 t190).f6), .int .u32 ((rd_T25 l0 t190).f7), .int .i64 0]) ?_ 8 _ rfl; (with_reducible repeat (first | refine blk_drewN ?_ _ | refine blk_drew ?_ | refine blk_alloc ?_ _)); refine blk_put (cs := #[.int .i64 ((rd_T25 l0 t190).f0), .int .i64 ((rd_T25 l0 t190).f1), .int .u32 ((rd_T25 l0 t190).f2), .int .u32 ((rd_T25 l0 t190).f3), .int .u32 ((rd_T25 l0 t190).f4), .int .u32 ((rd_T25 l0 t190).f5), .int .u32 ((rd_T25 l0 t190).f6), .int .u32 0, .int .i64 0]) ?_ 7 _ rfl; (with_reducible repeat (first | refine blk_drewN ?_ _ | refine blk_drew ?_ | refine blk_alloc ?_ _)); refine blk_put (cs := #[.int .i64 ((rd_T25 l0 t190).f0), .int .i64 ((rd_T25 l0 t190).f1), .int .u32 ((rd_T25 l0 t190).f2), .int .u32 ((rd_T25 l0 t190).f3), .int .u32 ((rd_T25 l0 t190).f4), .int .u32 ((rd_T25 l0 t190).f5), .int .u32 0, .int .u32 0, .int .i64 0]) ?_ 6 _ rfl; (with_reducible repeat (first | refine blk_drewN ?_ _ | refine blk_drew ?_ | refine blk_alloc ?_ _)); refine blk_put (cs := #[.int .i64 ((rd_T25 l0 t190).f0), .int .i64 ((rd_T25 l0 t190).f1), .int .u32 ((rd_T25 l0 t190).f2), .int .u32 ((rd_T25 l0 t190).f3), .int .u32 ((rd_T25 l0 t190).f4), .int .u32 0, .int .u32 0, .int .u32 0, .int .i64 0]) ?_ 5 _ rfl; (with_reducible repeat (first | refine blk_drewN ?_ _ | refine blk_drew ?_ | refine blk_alloc ?_ _)); refine blk_put (cs := #[.int .i64 ((rd_T25 l0 t190).f0), .int .i64 ((rd_T25 l0 t190).f1), .int .u32 ((rd_T25 l0 t190).f2), .int .u32 ((rd_T25 l0 t190).f3), .int .u32 0, .int .u32 0, .int .u32 0, .int .u32 0, .int .i64 0]) ?_ 4 _ rfl; (with_reducible repeat (first | refine blk_drewN ?_ _ | refine blk_drew ?_ | refine blk_alloc ?_ _)); refine blk_put (cs := #[.int .i64 ((rd_T25 l0 t190).f0), .int .i64 ((rd_T25 l0 t190).f1), .int .u32 ((rd_T25 l0 t190).f2), .int .u32 0, .int .u32 0, .int .u32 0, .int .u32 0, .int .u32 0, .int .i64 0]) ?_ 3 _ rfl; (with_reducible repeat (first | refine blk_drewN ?_ _ | refine blk_drew ?_ | refine blk_alloc ?_ _)); refine blk_put (cs := #[.int .i64 ((rd_T25 l0 t190).f0), .int .i64 ((rd_T25 l0 t190).f1), .int .u32 0, .int .u32 0, .int .u32 0, .int .u32 0, .int .u32 0, .int .u32 0, .int .i64 0]) ?_ 2 _ rfl; (with_reducible repeat (first | refine blk_drewN ?_ _ | refine blk_drew ?_ | refine blk_alloc ?_ _)); refine blk_put (cs := #[.int .i64 ((rd_T25 l0 t190).f0), .int .i64 0, .int .u32 0, .int .u32 0, .int .u32 0, .int .u32 0, .int .u32 0, .int .u32 0, .int .i64 0]) ?_ 1 _ rfl; (with_reducible repeat (first | refine blk_drewN ?_ _ | refine blk_drew ?_ | refine blk_alloc ?_ _)); refine blk_put (cs := #[.int .i64 0, .int .i64 0, .int .u32 0, .int .u32 0, .int .u32 0, .int .u32 0, .int .u32 0, .int .u32 0, .int .i64 0]) ?_ 0 _ rfl; (with_reducible repeat (first | refine blk_drewN ?_ _ | refine blk_drew ?_ | refine blk_alloc ?_ _)); exact BK196.out))⟩; have n1_ : Aside0 (Below w.heap.size w w42) := ⟨(by rw [hw]; exact (by repeat (first | (with_reducible first | exact HB.out | apply below_alloc | apply pw_below_drewN | apply below_drew1 | refine below_set ?_ GE196.out) | exact HB.out)))⟩; clear hw; clear BK196; clear HB; have BK196 := n0_; have HB := n1_; clear n0_ n1_; have hcz43_0 : w42.cell? ⟨gb196, 0, none⟩ = some (.int .i64 ((rd_T25 l0 t190).f0)) := (blk_cell BK196.out 0).trans rfl; have hcz43_1 : w42.cell? ⟨gb196, 1, none⟩ = some (.int .i64 ((rd_T25 l0 t190).f1)) := (blk_cell BK196.out 1).trans rfl; have hcz43_2 : w42.cell? ⟨gb196, 2, none⟩ = some (.int .u32 ((rd_T25 l0 t190).f2)) := (blk_cell BK196.out 2).trans rfl; have hcz43_3 : w42.cell? ⟨gb196, 3, none⟩ = some (.int .u32 ((rd_T25 l0 t190).f3)) := (blk_cell BK196.out 3).trans rfl; have hcz43_4 : w42.cell? ⟨gb196, 4, none⟩ = some (.int .u32 ((rd_T25 l0 t190).f4)) := (blk_cell BK196.out 4).trans rfl; have hcz43_5 : w42.cell? ⟨gb196, 5, none⟩ = some (.int .u32 ((rd_T25 l0 t190).f5)) := (blk_cell BK196.out 5).trans rfl; have hcz43_6 : w42.cell? ⟨gb196, 6, none⟩ = some (.int .u32 ((rd_T25 l0 t190).f6)) := (blk_cell BK196.out 6).trans rfl; have hcz43_7 : w42.cell? ⟨gb196, 7, none⟩ = some (.int .u32 ((rd_T25 l0 t190).f7)) := (blk_cell BK196.out 7).trans rfl; have hcz43_8 : w42.cell? ⟨gb196, 8, none⟩ = some (.int .i64 ((rd_T25 l0 t190).f8)) := (blk_cell BK196.out 8).trans rfl; have hfz43_0 := blk_frozen BK196.out 0; have hfz43_1 := blk_frozen BK196.out 1; have hfz43_2 := blk_frozen BK196.out 2; have hfz43_3 := blk_frozen BK196.out 3; have hfz43_4 := blk_frozen BK196.out 4; have hfz43_5 := blk_frozen BK196.out 5; have hfz43_6 := blk_frozen BK196.out 6; have hfz43_7 := blk_frozen BK196.out 7; have hfz43_8 := blk_frozen BK196.out 8) | ((with_reducible refine gate_store (t := 3) (p := 137) rfl ?_); (try (rw [drewN_self w42]; generalize hq_ : World.drewN w42 _ = w42; have n0_ := Aside0.mk (blk_at hq_ BK196.out); have n1_ := Aside0.mk (below_at hq_ HB.out); clear hq_ BK196 HB; have BK196 := n0_; have HB := n1_; clear n0_ n1_)); refine store_event (t := 3) (p := 137) (v := ?vo_w44) (w1 := (w42.setCell ⟨gb196, 8, none⟩ (.int .i64 (wrap64 (1 + (Int.tmod ((rd_T25 l0 t190).f8) 3)))))) ?hg ?ho ?hn ?hr ?_; (case ho => rfl); (case hg => rfl); (case hn => rfl); (case hr => first | (go_simp; done) | (go_simp; rfl)); intro w44 hw; have n0_ : Aside0 (w44.heap[gb196]? = some (.cells #[.int .i64 ((rd_T25 l0 t190).f0), .int .i64 ((rd_T25 l0 t190).f1), .int .u32 ((rd_T25 l0 t190).f2), .int .u32 ((rd_T25 l0 t190).f3), .int .u32 ((rd_T25 l0 t190).f4), .int .u32 ((rd_T25 l0 t190).f5), .int .u32 ((rd_T25 l0 t190).f6), .int .u32 ((rd_T25 l0 t190).f7), .int .i64 (wrap64 (1 + (Int.tmod ((rd_T25 l0 t190).f8) 3)))] 25 (0, 0))) := ⟨(by rw [hw]; exact (by (with_reducible repeat (first | refine blk_drewN ?_ _ | refine blk_drew ?_ | refine blk_alloc ?_ _)); refine blk_put (cs := #[.int .i64 ((rd_T25 l0 t190).f0), .int .i64 ((rd_T25 l0 t190).f1), .int .u32 ((rd_T25 l0 t190).f2), .int .u32 ((rd_T25 l0 t190).f3), .int .u32 ((rd_T25 l0 t190).f4), .int .u32 ((rd_T25 l0 t190).f5), .int .u32 ((rd_T25 l0 t190).f6), .int .u32 ((rd_T25 l0 t190).f7), .int .i64 ((rd_T25 l0 t190).f8)]) ?_ 8 _ rfl; (with_reducible repeat (first | refine blk_drewN ?_ _ | refine blk_drew ?_ | refine blk_alloc ?_ _)); exact BK196.out))⟩; have n1_ : Aside0 (Below w.heap.size w w44) := ⟨(by rw [hw]; exact (by repeat (first | (with_reducible first | exact HB.out | apply below_alloc | apply pw_below_drewN | apply below_drew1 | refine below_set ?_ GE196.out) | exact HB.out)))⟩; clear hw; clear BK196; clear HB; have BK196 := n0_; have HB := n1_; clear n0_ n1_; have hcz45_0 : w44.cell? ⟨gb196, 0, none⟩ = some (.int .i64 ((rd_T25 l0 t190).f0)) := (blk_cell BK196.out 0).trans rfl; have hcz45_1 : w44.cell? ⟨gb196, 1, none⟩ = some (.int .i64 ((rd_T25 l0 t190).f1)) := (blk_cell BK196.out 1).trans rfl; have hcz45_2 : w44.cell? ⟨gb196, 2, none⟩ = some (.int .u32 ((rd_T25 l0 t190).f2)) := (blk_cell BK196.out 2).trans rfl; have hcz45_3 : w44.cell? ⟨gb196, 3, none⟩ = some (.int .u32 ((rd_T25 l0 t190).f3)) := (blk_cell BK196.out 3).trans rfl; have hcz45_4 : w44.cell? ⟨gb196, 4, none⟩ = some (.int .u32 ((rd_T25 l0 t190).f4)) := (blk_cell BK196.out 4).trans rfl; have hcz45_5 : w44.cell? ⟨gb196, 5, none⟩ = some (.int .u32 ((rd_T25 l0 t190).f5)) := (blk_cell BK196.out 5).trans rfl; have hcz45_6 : w44.cell? ⟨gb196, 6, none⟩ = some (.int .u32 ((rd_T25 l0 t190).f6)) := (blk_cell BK196.out 6).trans rfl; have hcz45_7 : w44.cell? ⟨gb196, 7, none⟩ = some (.int .u32 ((rd_T25 l0 t190).f7)) := (blk_cell BK196.out 7).trans rfl; have hcz45_8 : w44.cell? ⟨gb196, 8, none⟩ = some (.int .i64 (wrap64 (1 + (Int.tmod ((rd_T25 l0 t190).f8) 3)))) := (blk_cell BK196.out 8).trans rfl; have hfz45_0 := blk_frozen BK196.out 0; have hfz45_1 := blk_frozen BK196.out 1; have hfz45_2 := blk_frozen BK196.out 2; have hfz45_3 := blk_frozen BK196.out 3; have hfz45_4 := blk_frozen BK196.out 4; have hfz45_5 := blk_frozen BK196.out 5; have hfz45_6 := blk_frozen BK196.out 6; have hfz45_7 := blk_frozen BK196.out 7; have hfz45_8 := blk_frozen BK196.out 8) | (go_at_call 14; (with_reducible refine (runs_Set.calls (fun k_ => k_ < w.heap.size) _ _ l0 t190 ((rd_T25 l0 t190).f0) ((rd_T25 l0 t190).f1) ((rd_T25 l0 t190).f2) ((rd_T25 l0 t190).f3) ((rd_T25 l0 t190).f4) ((rd_T25 l0 t190).f5) ((rd_T25 l0 t190).f6) ((rd_T25 l0 t190).f7) (wrap64 (1 + (Int.tmod ((rd_T25 l0 t190).f8) 3))) t197 t200 _ ?side1 A36.out).mono ?_); (case side1 => exact Kd.V_mk HC0.out (Kd.F_below (Kd.C_F k25_heap HR0.out) (by repeat (first | (with_reducible first | exact HB.out | apply below_alloc | apply pw_below_drewN | apply below_drew1 | refine below_set ?_ GE196.out) | exact HB.out)))); rintro e w46 ⟨v198, rfl, ho0, hb⟩; have n0_ := Aside0.mk (Kd.V_lower (Kd.V_mono (ok' := fun k_ => k_ ≠ gb196) ho0 (fun k_ hk_ => Or.elim hk_ (fun hs_ => fun e_ => Nat.not_le.2 hs_ (by rw [e_]; exact GW196.out)) (fun hn_ => (Kd.freshB (g := gb196) (o := .cells #[.int .i64 ((rd_T25 l0 t190).f0), .int .i64 ((rd_T25 l0 t190).f1), .int .u32 ((rd_T25 l0 t190).f2), .int .u32 ((rd_T25 l0 t190).f3), .int .u32 ((rd_T25 l0 t190).f4), .int .u32 ((rd_T25 l0 t190).f5), .int .u32 ((rd_T25 l0 t190).f6), .int .u32 ((rd_T25 l0 t190).f7), .int .i64 (wrap64 (1 + (Int.tmod ((rd_T25 l0 t190).f8) 3)))] 25 (0, 0)) (by (with_reducible repeat (first | refine blk_drewN ?_ _ | refine blk_drew ?_ | refine blk_alloc ?_ _)); exact BK196.out) k_ hn_)))) (below_size (by repeat (first | (with_reducible first | exact HB.out | apply below_alloc | apply pw_below_drewN | apply below_drew1 | refine below_set ?_ GE196.out) | exact HB.out)))); have n1_ := Aside0.mk (blk_below (g := gb196) (o := .cells #[.int .i64 ((rd_T25 l0 t190).f0), .int .i64 ((rd_T25 l0 t190).f1), .int .u32 ((rd_T25 l0 t190).f2), .int .u32 ((rd_T25 l0 t190).f3), .int .u32 ((rd_T25 l0 t190).f4), .int .u32 ((rd_T25 l0 t190).f5), .int .u32 ((rd_T25 l0 t190).f6), .int .u32 ((rd_T25 l0 t190).f7), .int .i64 (wrap64 (1 + (Int.tmod ((rd_T25 l0 t190).f8) 3)))] 25 (0, 0)) (by (with_reducible repeat (first | refine blk_drewN ?_ _ | refine blk_drew ?_ | refine blk_alloc ?_ _)); exact BK196.out) hb); have n2_ := Aside0.mk (below_step (by repeat (first | (with_reducible first | exact HB.out | apply below_alloc | apply pw_below_drewN | apply below_drew1 | refine below_set ?_ GE196.out) | exact HB.out)) hb); clear BK196; clear HB; have HO199 := n0_; have BK196 := n1_; have HB := n2_; clear n0_ n1_ n2_; (try clear hb); (try clear hb2); (try clear hk); (try clear hi); (try clear ho0); obtain ⟨Ao47, co47, eo47⟩ := Kd.V_slice HO199.out; subst eo47) | (go_at_call 16; (with_reducible refine (runs_Next.calls kj24 _ _ t197 t190 a1 a2 a3 t201 t202 _ ?side1 ?side2 A37.out).mono ?_); (case side1 => repeat (first | exact (Kd.V_reads' HO199.out).2.2 | (with_reducible refine Kd.C_alloc ?_ _) | (with_reducible refine Kd.C_drewN ?_ _) | (with_reducible refine Kd.C_drew ?_))); (case side2 => exact (Kd.V_reads' HO199.out).2.1); rintro e w48 ⟨rfl, hb⟩; have n0_ := Aside0.mk (Kd.V_below (by (with_reducible repeat (first | apply Kd.V_alloc | apply Kd.V_drewN | apply Kd.V_drew)); exact HO199.out) hb); have n1_ := Aside0.mk (blk_below (g := gb196) (o := .cells #[.int .i64 ((rd_T25 l0 t190).f0), .int .i64 ((rd_T25 l0 t190).f1), .int .u32 ((rd_T25 l0 t190).f2), .int .u32 ((rd_T25 l0 t190).f3), .int .u32 ((rd_T25 l0 t190).f4), .int .u32 ((rd_T25 l0 t190).f5), .int .u32 ((rd_T25 l0 t190).f6), .int .u32 ((rd_T25 l0 t190).f7), .int .i64 (wrap64 (1 + (Int.tmod ((rd_T25 l0 t190).f8) 3)))] 25 (0, 0)) (by (with_reducible repeat (first | refine blk_drewN ?_ _ | refine blk_drew ?_ | refine blk_alloc ?_ _)); exact BK196.out) hb); have n2_ := Aside0.mk (below_step (by repeat (first | (with_reducible first | exact HB.out | apply below_alloc | apply pw_below_drewN | apply below_drew1 | refine below_set ?_ GE196.out) | exact HB.out)) hb); clear HO199; clear BK196; clear HB; have HO199 := n0_; have BK196 := n1_; have HB := n2_; clear n0_ n1_ n2_; (try clear hb); (try clear hb2); (try clear hk); (try clear hi)) | (go_at_call 16; (with_reducible refine (runs_Next.calls kj24 _ _ l0 (wrap64 (t190 + 1)) a1 a2 a3 t203 t204 _ ?side1 ?side2 A38.out).mono ?_); (case side1 => repeat (first | exact (Kd.C_below HR0.out HB.out) | (with_reducible refine Kd.C_alloc ?_ _) | (with_reducible refine Kd.C_drewN ?_ _) | (with_reducible refine Kd.C_drew ?_))); (case side2 => exact HC0.out); rintro e w49 ⟨rfl, hb⟩; have n0_ := Aside0.mk (Kd.V_below (by (with_reducible repeat (first | apply Kd.V_alloc | apply Kd.V_drewN | apply Kd.V_drew)); exact HO199.out) hb); have n1_ := Aside0.mk (blk_below (g := gb196) (o := .cells #[.int .i64 ((rd_T25 l0 t190).f0), .int .i64 ((rd_T25 l0 t190).f1), .int .u32 ((rd_T25 l0 t190).f2), .int .u32 ((rd_T25 l0 t190).f3), .int .u32 ((rd_T25 l0 t190).f4), .int .u32 ((rd_T25 l0 t190).f5), .int .u32 ((rd_T25 l0 t190).f6), .int .u32 ((rd_T25 l0 t190).f7), .int .i64 (wrap64 (1 + (Int.tmod ((rd_T25 l0 t190).f8) 3)))] 25 (0, 0)) (by (with_reducible repeat (first | refine blk_drewN ?_ _ | refine blk_drew ?_ | refine blk_alloc ?_ _)); exact BK196.out) hb); have n2_ := Aside0.mk (below_step (by repeat (first | (with_reducible first | exact HB.out | apply below_alloc | apply pw_below_drewN | apply below_drew1 | refine below_set ?_ GE196.out) | exact HB.out)) hb); clear HO199; clear BK196; clear HB; have HO199 := n0_; have BK196 := n1_; have HB := n2_; clear n0_ n1_ n2_; (try clear hb); (try clear hb2); (try clear hk); (try clear hi)))
                                repeat (go_quiet (first | ((with_reducible refine gate_dst (N := 15) rfl ?_); (try (refine gate_guard (by rfl) ?_; dsimp only)); refine box_event ?hg (N := 15) ?hd (cs := #[.int .i64 0, .int .i64 0, .int .u32 0, .int .u32 0, .int .u32 0, .int .u32 0, .int .u32 0, .int .u32 0, .int .i64 0]) (t := 25) ?hr ?_; (case hd => rfl); (case hg => rfl); (case hr => first | (go_simp; done) | (go_simp; rfl)); intro gb196 hg w40 hbox hb; have n0_ := Aside0.mk (below_step (by repeat (first | (with_reducible first | exact HB.out | apply below_alloc | apply pw_below_drewN | apply below_drew1) | exact HB.out)) hb); have n1_ := Aside0.mk (hbox); have n2_ := Aside0.mk ((by rw [hg]; exact (below_size (by repeat (first | (with_reducible first | exact HB.out | apply below_alloc | apply pw_below_drewN | apply below_drew1) | exact HB.out))) : w.heap.size ≤ gb196)); have n3_ := Aside0.mk ((by rw [hg]; exact (below_size (by repeat (first | (with_reducible first | exact HB.out | apply below_alloc | apply pw_below_drewN | apply below_drew1) | exact HB.out))) : w.heap.size ≤ gb196)); clear HB; have HB := n0_; have BK196 := n1_; have GW196 := n2_; have GE196 := n3_; clear n0_ n1_ n2_ n3_; clear hb hbox hg; have hcz41_0 : w40.cell? ⟨gb196, 0, none⟩ = some (.int .i64 0) := (blk_cell BK196.out 0).trans rfl; have hcz41_1 : w40.cell? ⟨gb196, 1, none⟩ = some (.int .i64 0) := (blk_cell BK196.out 1).trans rfl; have hcz41_2 : w40.cell? ⟨gb196, 2, none⟩ = some (.int .u32 0) := (blk_cell BK196.out 2).trans rfl; have hcz41_3 : w40.cell? ⟨gb196, 3, none⟩ = some (.int .u32 0) := (blk_cell BK196.out 3).trans rfl; have hcz41_4 : w40.cell? ⟨gb196, 4, none⟩ = some (.int .u32 0) := (blk_cell BK196.out 4).trans rfl; have hcz41_5 : w40.cell? ⟨gb196, 5, none⟩ = some (.int .u32 0) := (blk_cell BK196.out 5).trans rfl; have hcz41_6 : w40.cell? ⟨gb196, 6, none⟩ = some (.int .u32 0) := (blk_cell BK196.out 6).trans rfl; have hcz41_7 : w40.cell? ⟨gb196, 7, none⟩ = some (.int .u32 0) := (blk_cell BK196.out 7).trans rfl; have hcz41_8 : w40.cell? ⟨gb196, 8, none⟩ = some (.int .i64 0) := (blk_cell BK196.out 8).trans rfl; have hfz41_0 := blk_frozen BK196.out 0; have hfz41_1 := blk_frozen BK196.out 1; have hfz41_2 := blk_frozen BK196.out 2; have hfz41_3 := blk_frozen BK196.out 3; have hfz41_4 := blk_frozen BK196.out 4; have hfz41_5 := blk_frozen BK196.out 5; have hfz41_6 := blk_frozen BK196.out 6; have hfz41_7 := blk_frozen BK196.out 7; have hfz41_8 := blk_frozen BK196.out 8) | ((with_reducible refine gate_store (t := 25) (p := 15) rfl ?_); (try (rw [drewN_self w40]; generalize hq_ : World.drewN w40 _ = w40; have n0_ := Aside0.mk (blk_at hq_ BK196.out); have n1_ := Aside0.mk (below_at hq_ HB.out); clear hq_ BK196 HB; have BK196 := n0_; have HB := n1_; clear n0_ n1_)); refine store_event (t := 25) (p := 15) (v := ?vo_w42) (w1 := (((((((((w40.setCell ⟨gb196, 0, none⟩ (.int .i64 ((rd_T25 l0 t190).f0))).setCell ⟨gb196, 1, none⟩ (.int .i64 ((rd_T25 l0 t190).f1))).setCell ⟨gb196, 2, none⟩ (.int .u32 ((rd_T25 l0 t190).f2))).setCell ⟨gb196, 3, none⟩ (.int .u32 ((rd_T25 l0 t190).f3))).setCell ⟨gb196, 4, none⟩ (.int .u32 ((rd_T25 l0 t190).f4))).setCell ⟨gb196, 5, none⟩ (.int .u32 ((rd_T25 l0 t190).f5))).setCell ⟨gb196, 6, none⟩ (.int .u32 ((rd_T25 l0 t190).f6))).setCell ⟨gb196, 7, none⟩ (.int .u32 ((rd_T25 l0 t190).f7))).setCell ⟨gb196, 8, none⟩ (.int .i64 ((rd_T25 l0 t190).f8)))) ?hg ?ho ?hn ?hr ?_; (case ho => rfl); (case hg => rfl); (case hn => rfl); (case hr => first | (go_simp; done) | (go_simp; rfl)); intro w42 hw; have n0_ : Aside0 (w42.heap[gb196]? = some (.cells #[.int .i64 ((rd_T25 l0 t190).f0), .int .i64 ((rd_T25 l0 t190).f1), .int .u32 ((rd_T25 l0 t190).f2), .int .u32 ((rd_T25 l0 t190).f3), .int .u32 ((rd_T25 l0 t190).f4), .int .u32 ((rd_T25 l0 t190).f5), .int .u32 ((rd_T25 l0 t190).f6), .int .u32 ((rd_T25 l0 t190).f7), .int .i64 ((rd_T25 l0 t190).f8)] 25 (0, 0))) := ⟨(by rw [hw]; exact (by (with_reducible repeat (first | refine blk_drewN ?_ _ | refine blk_drew ?_ | refine blk_alloc ?_ _)); refine blk_put (cs := #[.int .i64 ((rd_T25 l0 t190).f0), .int .i64 ((rd_T25 l0 t190).f1), .int .u32 ((rd_T25 l0 t190).f2), .int .u32 ((rd_T25 l0 t190).f3), .int .u32 ((rd_T25 l0 t190).f4), .int .u32 ((rd_T25 l0 t190).f5), .int .u32 ((rd_T25 l0 t190).f6), .int .u32 ((rd_T25 l0 t190).f7), .int .i64 0]) ?_ 8 _ rfl; (with_reducible repeat (first | refine blk_drewN ?_ _ | refine blk_drew ?_ | refine blk_alloc ?_ _)); refine blk_put (cs := #[.int .i64 ((rd_T25 l0 t190).f0), .int .i64 ((rd_T25 l0 t190).f1), .int .u32 ((rd_T25 l0 t190).f2), .int .u32 ((rd_T25 l0 t190).f3), .int .u32 ((rd_T25 l0 t190).f4), .int .u32 ((rd_T25 l0 t190).f5), .int .u32 ((rd_T25 l0 t190).f6), .int .u32 0, .int .i64 0]) ?_ 7 _ rfl; (with_reducible repeat (first | refine blk_drewN ?_ _ | refine blk_drew ?_ | refine blk_alloc ?_ _)); refine blk_put (cs := #[.int .i64 ((rd_T25 l0 t190).f0), .int .i64 ((rd_T25 l0 t190).f1), .int .u32 ((rd_T25 l0 t190).f2), .int .u32 ((rd_T25 l0 t190).f3), .int .u32 ((rd_T25 l0 t190).f4), .int .u32 ((rd_T25 l0 t190).f5), .int .u32 0, .int .u32 0, .int .i64 0]) ?_ 6 _ rfl; (with_reducible repeat (first | refine blk_drewN ?_ _ | refine blk_drew ?_ | refine blk_alloc ?_ _)); refine blk_put (cs := #[.int .i64 ((rd_T25 l0 t190).f0), .int .i64 ((rd_T25 l0 t190).f1), .int .u32 ((rd_T25 l0 t190).f2), .int .u32 ((rd_T25 l0 t190).f3), .int .u32 ((rd_T25 l0 t190).f4), .int .u32 0, .int .u32 0, .int .u32 0, .int .i64 0]) ?_ 5 _ rfl; (with_reducible repeat (first | refine blk_drewN ?_ _ | refine blk_drew ?_ | refine blk_alloc ?_ _)); refine blk_put (cs := #[.int .i64 ((rd_T25 l0 t190).f0), .int .i64 ((rd_T25 l0 t190).f1), .int .u32 ((rd_T25 l0 t190).f2), .int .u32 ((rd_T25 l0 t190).f3), .int .u32 0, .int .u32 0, .int .u32 0, .int .u32 0, .int .i64 0]) ?_ 4 _ rfl; (with_reducible repeat (first | refine blk_drewN ?_ _ | refine blk_drew ?_ | refine blk_alloc ?_ _)); refine blk_put (cs := #[.int .i64 ((rd_T25 l0 t190).f0), .int .i64 ((rd_T25 l0 t190).f1), .int .u32 ((rd_T25 l0 t190).f2), .int .u32 0, .int .u32 0, .int .u32 0, .int .u32 0, .int .u32 0, .int .i64 0]) ?_ 3 _ rfl; (with_reducible repeat (first | refine blk_drewN ?_ _ | refine blk_drew ?_ | refine blk_alloc ?_ _)); refine blk_put (cs := #[.int .i64 ((rd_T25 l0 t190).f0), .int .i64 ((rd_T25 l0 t190).f1), .int .u32 0, .int .u32 0, .int .u32 0, .int .u32 0, .int .u32 0, .int .u32 0, .int .i64 0]) ?_ 2 _ rfl; (with_reducible repeat (first | refine blk_drewN ?_ _ | refine blk_drew ?_ | refine blk_alloc ?_ _)); refine blk_put (cs := #[.int .i64 ((rd_T25 l0 t190).f0), .int .i64 0, .int .u32 0, .int .u32 0, .int .u32 0, .int .u32 0, .int .u32 0, .int .u32 0, .int .i64 0]) ?_ 1 _ rfl; (with_reducible repeat (first | refine blk_drewN ?_ _ | refine blk_drew ?_ | refine blk_alloc ?_ _)); refine blk_put (cs := #[.int .i64 0, .int .i64 0, .int .u32 0, .int .u32 0, .int .u32 0, .int .u32 0, .int .u32 0, .int .u32 0, .int .i64 0]) ?_ 0 _ rfl; (with_reducible repeat (first | refine blk_drewN ?_ _ | refine blk_drew ?_ | refine blk_alloc ?_ _)); exact BK196.out))⟩; have n1_ : Aside0 (Below w.heap.size w w42) := ⟨(by rw [hw]; exact (by repeat (first | (with_reducible first | exact HB.out | apply below_alloc | apply pw_below_drewN | apply below_drew1 | refine below_set ?_ GE196.out) | exact HB.out)))⟩; clear hw; clear BK196; clear HB; have BK196 := n0_; have HB := n1_; clear n0_ n1_; have hcz43_0 : w42.cell? ⟨gb196, 0, none⟩ = some (.int .i64 ((rd_T25 l0 t190).f0)) := (blk_cell BK196.out 0).trans rfl; have hcz43_1 : w42.cell? ⟨gb196, 1, none⟩ = some (.int .i64 ((rd_T25 l0 t190).f1)) := (blk_cell BK196.out 1).trans rfl; have hcz43_2 : w42.cell? ⟨gb196, 2, none⟩ = some (.int .u32 ((rd_T25 l0 t190).f2)) := (blk_cell BK196.out 2).trans rfl; have hcz43_3 : w42.cell? ⟨gb196, 3, none⟩ = some (.int .u32 ((rd_T25 l0 t190).f3)) := (blk_cell BK196.out 3).trans rfl; have hcz43_4 : w42.cell? ⟨gb196, 4, none⟩ = some (.int .u32 ((rd_T25 l0 t190).f4)) := (blk_cell BK196.out 4).trans rfl; have hcz43_5 : w42.cell? ⟨gb196, 5, none⟩ = some (.int .u32 ((rd_T25 l0 t190).f5)) := (blk_cell BK196.out 5).trans rfl; have hcz43_6 : w42.cell? ⟨gb196, 6, none⟩ = some (.int .u32 ((rd_T25 l0 t190).f6)) := (blk_cell BK196.out 6).trans rfl; have hcz43_7 : w42.cell? ⟨gb196, 7, none⟩ = some (.int .u32 ((rd_T25 l0 t190).f7)) := (blk_cell BK196.out 7).trans rfl; have hcz43_8 : w42.cell? ⟨gb196, 8, none⟩ = some (.int .i64 ((rd_T25 l0 t190).f8)) := (blk_cell BK196.out 8).trans rfl; have hfz43_0 := blk_frozen BK196.out 0; have hfz43_1 := blk_frozen BK196.out 1; have hfz43_2 := blk_frozen BK196.out 2; have hfz43_3 := blk_frozen BK196.out 3; have hfz43_4 := blk_frozen BK196.out 4; have hfz43_5 := blk_frozen BK196.out 5; have hfz43_6 := blk_frozen BK196.out 6; have hfz43_7 := blk_frozen BK196.out 7; have hfz43_8 := blk_frozen BK196.out 8) | ((with_reducible refine gate_store (t := 3) (p := 137) rfl ?_); (try (rw [drewN_self w42]; generalize hq_ : World.drewN w42 _ = w42; have n0_ := Aside0.mk (blk_at hq_ BK196.out); have n1_ := Aside0.mk (below_at hq_ HB.out); clear hq_ BK196 HB; have BK196 := n0_; have HB := n1_; clear n0_ n1_)); refine store_event (t := 3) (p := 137) (v := ?vo_w44) (w1 := (w42.setCell ⟨gb196, 8, none⟩ (.int .i64 (wrap64 (1 + (Int.tmod ((rd_T25 l0 t190).f8) 3)))))) ?hg ?ho ?hn ?hr ?_; (case ho => rfl); (case hg => rfl); (case hn => rfl); (case hr => first | (go_simp; done) | (go_simp; rfl)); intro w44 hw; have n0_ : Aside0 (w44.heap[gb196]? = some (.cells #[.int .i64 ((rd_T25 l0 t190).f0), .int .i64 ((rd_T25 l0 t190).f1), .int .u32 ((rd_T25 l0 t190).f2), .int .u32 ((rd_T25 l0 t190).f3), .int .u32 ((rd_T25 l0 t190).f4), .int .u32 ((rd_T25 l0 t190).f5), .int .u32 ((rd_T25 l0 t190).f6), .int .u32 ((rd_T25 l0 t190).f7), .int .i64 (wrap64 (1 + (Int.tmod ((rd_T25 l0 t190).f8) 3)))] 25 (0, 0))) := ⟨(by rw [hw]; exact (by (with_reducible repeat (first | refine blk_drewN ?_ _ | refine blk_drew ?_ | refine blk_alloc ?_ _)); refine blk_put (cs := #[.int .i64 ((rd_T25 l0 t190).f0), .int .i64 ((rd_T25 l0 t190).f1), .int .u32 ((rd_T25 l0 t190).f2), .int .u32 ((rd_T25 l0 t190).f3), .int .u32 ((rd_T25 l0 t190).f4), .int .u32 ((rd_T25 l0 t190).f5), .int .u32 ((rd_T25 l0 t190).f6), .int .u32 ((rd_T25 l0 t190).f7), .int .i64 ((rd_T25 l0 t190).f8)]) ?_ 8 _ rfl; (with_reducible repeat (first | refine blk_drewN ?_ _ | refine blk_drew ?_ | refine blk_alloc ?_ _)); exact BK196.out))⟩; have n1_ : Aside0 (Below w.heap.size w w44) := ⟨(by rw [hw]; exact (by repeat (first | (with_reducible first | exact HB.out | apply below_alloc | apply pw_below_drewN | apply below_drew1 | refine below_set ?_ GE196.out) | exact HB.out)))⟩; clear hw; clear BK196; clear HB; have BK196 := n0_; have HB := n1_; clear n0_ n1_; have hcz45_0 : w44.cell? ⟨gb196, 0, none⟩ = some (.int .i64 ((rd_T25 l0 t190).f0)) := (blk_cell BK196.out 0).trans rfl; have hcz45_1 : w44.cell? ⟨gb196, 1, none⟩ = some (.int .i64 ((rd_T25 l0 t190).f1)) := (blk_cell BK196.out 1).trans rfl; have hcz45_2 : w44.cell? ⟨gb196, 2, none⟩ = some (.int .u32 ((rd_T25 l0 t190).f2)) := (blk_cell BK196.out 2).trans rfl; have hcz45_3 : w44.cell? ⟨gb196, 3, none⟩ = some (.int .u32 ((rd_T25 l0 t190).f3)) := (blk_cell BK196.out 3).trans rfl; have hcz45_4 : w44.cell? ⟨gb196, 4, none⟩ = some (.int .u32 ((rd_T25 l0 t190).f4)) := (blk_cell BK196.out 4).trans rfl; have hcz45_5 : w44.cell? ⟨gb196, 5, none⟩ = some (.int .u32 ((rd_T25 l0 t190).f5)) := (blk_cell BK196.out 5).trans rfl; have hcz45_6 : w44.cell? ⟨gb196, 6, none⟩ = some (.int .u32 ((rd_T25 l0 t190).f6)) := (blk_cell BK196.out 6).trans rfl; have hcz45_7 : w44.cell? ⟨gb196, 7, none⟩ = some (.int .u32 ((rd_T25 l0 t190).f7)) := (blk_cell BK196.out 7).trans rfl; have hcz45_8 : w44.cell? ⟨gb196, 8, none⟩ = some (.int .i64 (wrap64 (1 + (Int.tmod ((rd_T25 l0 t190).f8) 3)))) := (blk_cell BK196.out 8).trans rfl; have hfz45_0 := blk_frozen BK196.out 0; have hfz45_1 := blk_frozen BK196.out 1; have hfz45_2 := blk_frozen BK196.out 2; have hfz45_3 := blk_frozen BK196.out 3; have hfz45_4 := blk_frozen BK196.out 4; have hfz45_5 := blk_frozen BK196.out 5; have hfz45_6 := blk_frozen BK196.out 6; have hfz45_7 := blk_frozen BK196.out 7; have hfz45_8 := blk_frozen BK196.out 8) | (go_at_call 14; (with_reducible refine (runs_Set.calls (fun k_ => k_ < w.heap.size) _ _ l0 t190 ((rd_T25 l0 t190).f0) ((rd_T25 l0 t190).f1) ((rd_T25 l0 t190).f2) ((rd_T25 l0 t190).f3) ((rd_T25 l0 t190).f4) ((rd_T25 l0 t190).f5) ((rd_T25 l0 t190).f6) ((rd_T25 l0 t190).f7) (wrap64 (1 + (Int.tmod ((rd_T25 l0 t190).f8) 3))) t197 t200 _ ?side1 A36.out).mono ?_); (case side1 => exact Kd.V_mk HC0.out (Kd.F_below (Kd.C_F k25_heap HR0.out) (by repeat (first | (with_reducible first | exact HB.out | apply below_alloc | apply pw_below_drewN | apply below_drew1 | refine below_set ?_ GE196.out) | exact HB.out)))); rintro e w46 ⟨v198, rfl, ho0, hb⟩; have n0_ := Aside0.mk (Kd.V_lower (Kd.V_mono (ok' := fun k_ => k_ ≠ gb196) ho0 (fun k_ hk_ => Or.elim hk_ (fun hs_ => fun e_ => Nat.not_le.2 hs_ (by rw [e_]; exact GW196.out)) (fun hn_ => (Kd.freshB (g := gb196) (o := .cells #[.int .i64 ((rd_T25 l0 t190).f0), .int .i64 ((rd_T25 l0 t190).f1), .int .u32 ((rd_T25 l0 t190).f2), .int .u32 ((rd_T25 l0 t190).f3), .int .u32 ((rd_T25 l0 t190).f4), .int .u32 ((rd_T25 l0 t190).f5), .int .u32 ((rd_T25 l0 t190).f6), .int .u32 ((rd_T25 l0 t190).f7), .int .i64 (wrap64 (1 + (Int.tmod ((rd_T25 l0 t190).f8) 3)))] 25 (0, 0)) (by (with_reducible repeat (first | refine blk_drewN ?_ _ | refine blk_drew ?_ | refine blk_alloc ?_ _)); exact BK196.out) k_ hn_)))) (below_size (by repeat (first | (with_reducible first | exact HB.out | apply below_alloc | apply pw_below_drewN | apply below_drew1 | refine below_set ?_ GE196.out) | exact HB.out)))); have n1_ := Aside0.mk (blk_below (g := gb196) (o := .cells #[.int .i64 ((rd_T25 l0 t190).f0), .int .i64 ((rd_T25 l0 t190).f1), .int .u32 ((rd_T25 l0 t190).f2), .int .u32 ((rd_T25 l0 t190).f3), .int .u32 ((rd_T25 l0 t190).f4), .int .u32 ((rd_T25 l0 t190).f5), .int .u32 ((rd_T25 l0 t190).f6), .int .u32 ((rd_T25 l0 t190).f7), .int .i64 (wrap64 (1 + (Int.tmod ((rd_T25 l0 t190).f8) 3)))] 25 (0, 0)) (by (with_reducible repeat (first | refine blk_drewN ?_ _ | refine blk_drew ?_ | refine blk_alloc ?_ _)); exact BK196.out) hb); have n2_ := Aside0.mk (below_step (by repeat (first | (with_reducible first | exact HB.out | apply below_alloc | apply pw_below_drewN | apply below_drew1 | refine below_set ?_ GE196.out) | exact HB.out)) hb); clear BK196; clear HB; have HO199 := n0_; have BK196 := n1_; have HB := n2_; clear n0_ n1_ n2_; (try clear hb); (try clear hb2); (try clear hk); (try clear hi); (try clear ho0); obtain ⟨Ao47, co47, eo47⟩ := Kd.V_slice HO199.out; subst eo47) | (go_at_call 16; (with_reducible refine (runs_Next.calls kj24 _ _ t197 t190 a1 a2 a3 t201 t202 _ ?side1 ?side2 A37.out).mono ?_); (case side1 => repeat (first | exact (Kd.V_reads' HO199.out).2.2 | (with_reducible refine Kd.C_alloc ?_ _) | (with_reducible refine Kd.C_drewN ?_ _) | (with_reducible refine Kd.C_drew ?_))); (case side2 => exact (Kd.V_reads' HO199.out).2.1); rintro e w48 ⟨rfl, hb⟩; have n0_ := Aside0.mk (Kd.V_below (by (with_reducible repeat (first | apply Kd.V_alloc | apply Kd.V_drewN | apply Kd.V_drew)); exact HO199.out) hb); have n1_ := Aside0.mk (blk_below (g := gb196) (o := .cells #[.int .i64 ((rd_T25 l0 t190).f0), .int .i64 ((rd_T25 l0 t190).f1), .int .u32 ((rd_T25 l0 t190).f2), .int .u32 ((rd_T25 l0 t190).f3), .int .u32 ((rd_T25 l0 t190).f4), .int .u32 ((rd_T25 l0 t190).f5), .int .u32 ((rd_T25 l0 t190).f6), .int .u32 ((rd_T25 l0 t190).f7), .int .i64 (wrap64 (1 + (Int.tmod ((rd_T25 l0 t190).f8) 3)))] 25 (0, 0)) (by (with_reducible repeat (first | refine blk_drewN ?_ _ | refine blk_drew ?_ | refine blk_alloc ?_ _)); exact BK196.out) hb); have n2_ := Aside0.mk (below_step (by repeat (first | (with_reducible first | exact HB.out | apply below_alloc | apply pw_below_drewN | apply below_drew1 | refine below_set ?_ GE196.out) | exact HB.out)) hb); clear HO199; clear BK196; clear HB; have HO199 := n0_; have BK196 := n1_; have HB := n2_; clear n0_ n1_ n2_; (try clear hb); (try clear hb2); (try clear hk); (try clear hi)) | (go_at_call 16; (with_reducible refine (runs_Next.calls kj24 _ _ l0 (wrap64 (t190 + 1)) a1 a2 a3 t203 t204 _ ?side1 ?side2 A38.out).mono ?_); (case side1 => repeat (first | exact (Kd.C_below HR0.out HB.out) | (with_reducible refine Kd.C_alloc ?_ _) | (with_reducible refine Kd.C_drewN ?_ _) | (with_reducible refine Kd.C_drew ?_))); (case side2 => exact HC0.out); rintro e w49 ⟨rfl, hb⟩; have n0_ := Aside0.mk (Kd.V_below (by (with_reducible repeat (first | apply Kd.V_alloc | apply Kd.V_drewN | apply Kd.V_drew)); exact HO199.out) hb); have n1_ := Aside0.mk (blk_below (g := gb196) (o := .cells #[.int .i64 ((rd_T25 l0 t190).f0), .int .i64 ((rd_T25 l0 t190).f1), .int .u32 ((rd_T25 l0 t190).f2), .int .u32 ((rd_T25 l0 t190).f3), .int .u32 ((rd_T25 l0 t190).f4), .int .u32 ((rd_T25 l0 t190).f5), .int .u32 ((rd_T25 l0 t190).f6), .int .u32 ((rd_T25 l0 t190).f7), .int .i64 (wrap64 (1 + (Int.tmod ((rd_T25 l0 t190).f8) 3)))] 25 (0, 0)) (by (with_reducible repeat (first | refine blk_drewN ?_ _ | refine blk_drew ?_ | refine blk_alloc ?_ _)); exact BK196.out) hb); have n2_ := Aside0.mk (below_step (by repeat (first | (with_reducible first | exact HB.out | apply below_alloc | apply pw_below_drewN | apply below_drew1 | refine below_set ?_ GE196.out) | exact HB.out)) hb); clear HO199; clear BK196; clear HB; have HO199 := n0_; have BK196 := n1_; have HB := n2_; clear n0_ n1_ n2_; (try clear hb); (try clear hb2); (try clear hk); (try clear hi))); go_upto_region 23 with (first | ((with_reducible refine gate_dst (N := 15) rfl ?_); (try (refine gate_guard (by rfl) ?_; dsimp only)); refine box_event ?hg (N := 15) ?hd (cs := #[.int .i64 0, .int .i64 0, .int .u32 0, .int .u32 0, .int .u32 0, .int .u32 0, .int .u32 0, .int .u32 0, .int .i64 0]) (t := 25) ?hr ?_; (case hd => rfl); (case hg => rfl); (case hr => first | (go_simp; done) | (go_simp; rfl)); intro gb196 hg w40 hbox hb; have n0_ := Aside0.mk (below_step (by repeat (first | (with_reducible first | exact HB.out | apply below_alloc | apply pw_below_drewN | apply below_drew1) | exact HB.out)) hb); have n1_ := Aside0.mk (hbox); have n2_ := Aside0.mk ((by rw [hg]; exact (below_size (by repeat (first | (with_reducible first | exact HB.out | apply below_alloc | apply pw_below_drewN | apply below_drew1) | exact HB.out))) : w.heap.size ≤ gb196)); have n3_ := Aside0.mk ((by rw [hg]; exact (below_size (by repeat (first | (with_reducible first | exact HB.out | apply below_alloc | apply pw_below_drewN | apply below_drew1) | exact HB.out))) : w.heap.size ≤ gb196)); clear HB; have HB := n0_; have BK196 := n1_; have GW196 := n2_; have GE196 := n3_; clear n0_ n1_ n2_ n3_; clear hb hbox hg; have hcz41_0 : w40.cell? ⟨gb196, 0, none⟩ = some (.int .i64 0) := (blk_cell BK196.out 0).trans rfl; have hcz41_1 : w40.cell? ⟨gb196, 1, none⟩ = some (.int .i64 0) := (blk_cell BK196.out 1).trans rfl; have hcz41_2 : w40.cell? ⟨gb196, 2, none⟩ = some (.int .u32 0) := (blk_cell BK196.out 2).trans rfl; have hcz41_3 : w40.cell? ⟨gb196, 3, none⟩ = some (.int .u32 0) := (blk_cell BK196.out 3).trans rfl; have hcz41_4 : w40.cell? ⟨gb196, 4, none⟩ = some (.int .u32 0) := (blk_cell BK196.out 4).trans rfl; have hcz41_5 : w40.cell? ⟨gb196, 5, none⟩ = some (.int .u32 0) := (blk_cell BK196.out 5).trans rfl; have hcz41_6 : w40.cell? ⟨gb196, 6, none⟩ = some (.int .u32 0) := (blk_cell BK196.out 6).trans rfl; have hcz41_7 : w40.cell? ⟨gb196, 7, none⟩ = some (.int .u32 0) := (blk_cell BK196.out 7).trans rfl; have hcz41_8 : w40.cell? ⟨gb196, 8, none⟩ = some (.int .i64 0) := (blk_cell BK196.out 8).trans rfl; have hfz41_0 := blk_frozen BK196.out 0; have hfz41_1 := blk_frozen BK196.out 1; have hfz41_2 := blk_frozen BK196.out 2; have hfz41_3 := blk_frozen BK196.out 3; have hfz41_4 := blk_frozen BK196.out 4; have hfz41_5 := blk_frozen BK196.out 5; have hfz41_6 := blk_frozen BK196.out 6; have hfz41_7 := blk_frozen BK196.out 7; have hfz41_8 := blk_frozen BK196.out 8) | ((with_reducible refine gate_store (t := 25) (p := 15) rfl ?_); (try (rw [drewN_self w40]; generalize hq_ : World.drewN w40 _ = w40; have n0_ := Aside0.mk (blk_at hq_ BK196.out); have n1_ := Aside0.mk (below_at hq_ HB.out); clear hq_ BK196 HB; have BK196 := n0_; have HB := n1_; clear n0_ n1_)); refine store_event (t := 25) (p := 15) (v := ?vo_w42) (w1 := (((((((((w40.setCell ⟨gb196, 0, none⟩ (.int .i64 ((rd_T25 l0 t190).f0))).setCell ⟨gb196, 1, none⟩ (.int .i64 ((rd_T25 l0 t190).f1))).setCell ⟨gb196, 2, none⟩ (.int .u32 ((rd_T25 l0 t190).f2))).setCell ⟨gb196, 3, none⟩ (.int .u32 ((rd_T25 l0 t190).f3))).setCell ⟨gb196, 4, none⟩ (.int .u32 ((rd_T25 l0 t190).f4))).setCell ⟨gb196, 5, none⟩ (.int .u32 ((rd_T25 l0 t190).f5))).setCell ⟨gb196, 6, none⟩ (.int .u32 ((rd_T25 l0 t190).f6))).setCell ⟨gb196, 7, none⟩ (.int .u32 ((rd_T25 l0 t190).f7))).setCell ⟨gb196, 8, none⟩ (.int .i64 ((rd_T25 l0 t190).f8)))) ?hg ?ho ?hn ?hr ?_; (case ho => rfl); (case hg => rfl); (case hn => rfl); (case hr => first | (go_simp; done) | (go_simp; rfl)); intro w42 hw; have n0_ : Aside0 (w42.heap[gb196]? = some (.cells #[.int .i64 ((rd_T25 l0 t190).f0), .int .i64 ((rd_T25 l0 t190).f1), .int .u32 ((rd_T25 l0 t190).f2), .int .u32 ((rd_T25 l0 t190).f3), .int .u32 ((rd_T25 l0 t190).f4), .int .u32 ((rd_T25 l0 t190).f5), .int .u32 ((rd_T25 l0 t190).f6), .int .u32 ((rd_T25 l0 t190).f7), .int .i64 ((rd_T25 l0 t190).f8)] 25 (0, 0))) := ⟨(by rw [hw]; exact (by (with_reducible repeat (first | refine blk_drewN ?_ _ | refine blk_drew ?_ | refine blk_alloc ?_ _)); refine blk_put (cs := #[.int .i64 ((rd_T25 l0 t190).f0), .int .i64 ((rd_T25 l0 t190).f1), .int .u32 ((rd_T25 l0 t190).f2), .int .u32 ((rd_T25 l0 t190).f3), .int .u32 ((rd_T25 l0 t190).f4), .int .u32 ((rd_T25 l0 t190).f5), .int .u32 ((rd_T25 l0 t190).f6), .int .u32 ((rd_T25 l0 t190).f7), .int .i64 0]) ?_ 8 _ rfl; (with_reducible repeat (first | refine blk_drewN ?_ _ | refine blk_drew ?_ | refine blk_alloc ?_ _)); refine blk_put (cs := #[.int .i64 ((rd_T25 l0 t190).f0), .int .i64 ((rd_T25 l0 t190).f1), .int .u32 ((rd_T25 l0 t190).f2), .int .u32 ((rd_T25 l0 t190).f3), .int .u32 ((rd_T25 l0 t190).f4), .int .u32 ((rd_T25 l0 t190).f5), .int .u32 ((rd_T25 l0 t190).f6), .int .u32 0, .int .i64 0]) ?_ 7 _ rfl; (with_reducible repeat (first | refine blk_drewN ?_ _ | refine blk_drew ?_ | refine blk_alloc ?_ _)); refine blk_put (cs := #[.int .i64 ((rd_T25 l0 t190).f0), .int .i64 ((rd_T25 l0 t190).f1), .int .u32 ((rd_T25 l0 t190).f2), .int .u32 ((rd_T25 l0 t190).f3), .int .u32 ((rd_T25 l0 t190).f4), .int .u32 ((rd_T25 l0 t190).f5), .int .u32 0, .int .u32 0, .int .i64 0]) ?_ 6 _ rfl; (with_reducible repeat (first | refine blk_drewN ?_ _ | refine blk_drew ?_ | refine blk_alloc ?_ _)); refine blk_put (cs := #[.int .i64 ((rd_T25 l0 t190).f0), .int .i64 ((rd_T25 l0 t190).f1), .int .u32 ((rd_T25 l0 t190).f2), .int .u32 ((rd_T25 l0 t190).f3), .int .u32 ((rd_T25 l0 t190).f4), .int .u32 0, .int .u32 0, .int .u32 0, .int .i64 0]) ?_ 5 _ rfl; (with_reducible repeat (first | refine blk_drewN ?_ _ | refine blk_drew ?_ | refine blk_alloc ?_ _)); refine blk_put (cs := #[.int .i64 ((rd_T25 l0 t190).f0), .int .i64 ((rd_T25 l0 t190).f1), .int .u32 ((rd_T25 l0 t190).f2), .int .u32 ((rd_T25 l0 t190).f3), .int .u32 0, .int .u32 0, .int .u32 0, .int .u32 0, .int .i64 0]) ?_ 4 _ rfl; (with_reducible repeat (first | refine blk_drewN ?_ _ | refine blk_drew ?_ | refine blk_alloc ?_ _)); refine blk_put (cs := #[.int .i64 ((rd_T25 l0 t190).f0), .int .i64 ((rd_T25 l0 t190).f1), .int .u32 ((rd_T25 l0 t190).f2), .int .u32 0, .int .u32 0, .int .u32 0, .int .u32 0, .int .u32 0, .int .i64 0]) ?_ 3 _ rfl; (with_reducible repeat (first | refine blk_drewN ?_ _ | refine blk_drew ?_ | refine blk_alloc ?_ _)); refine blk_put (cs := #[.int .i64 ((rd_T25 l0 t190).f0), .int .i64 ((rd_T25 l0 t190).f1), .int .u32 0, .int .u32 0, .int .u32 0, .int .u32 0, .int .u32 0, .int .u32 0, .int .i64 0]) ?_ 2 _ rfl; (with_reducible repeat (first | refine blk_drewN ?_ _ | refine blk_drew ?_ | refine blk_alloc ?_ _)); refine blk_put (cs := #[.int .i64 ((rd_T25 l0 t190).f0), .int .i64 0, .int .u32 0, .int .u32 0, .int .u32 0, .int .u32 0, .int .u32 0, .int .u32 0, .int .i64 0]) ?_ 1 _ rfl; (with_reducible repeat (first | refine blk_drewN ?_ _ | refine blk_drew ?_ | refine blk_alloc ?_ _)); refine blk_put (cs := #[.int .i64 0, .int .i64 0, .int .u32 0, .int .u32 0, .int .u32 0, .int .u32 0, .int .u32 0, .int .u32 0, .int .i64 0]) ?_ 0 _ rfl; (with_reducible repeat (first | refine blk_drewN ?_ _ | refine blk_drew ?_ | refine blk_alloc ?_ _)); exact BK196.out))⟩; have n1_ : Aside0 (Below w.heap.size w w42) := ⟨(by rw [hw]; exact (by repeat (first | (with_reducible first | exact HB.out | apply below_alloc | apply pw_below_drewN | apply below_drew1 | refine below_set ?_ GE196.out) | exact HB.out)))⟩; clear hw; clear BK196; clear HB; have BK196 := n0_; have HB := n1_; clear n0_ n1_; have hcz43_0 : w42.cell? ⟨gb196, 0, none⟩ = some (.int .i64 ((rd_T25 l0 t190).f0)) := (blk_cell BK196.out 0).trans rfl; have hcz43_1 : w42.cell? ⟨gb196, 1, none⟩ = some (.int .i64 ((rd_T25 l0 t190).f1)) := (blk_cell BK196.out 1).trans rfl; have hcz43_2 : w42.cell? ⟨gb196, 2, none⟩ = some (.int .u32 ((rd_T25 l0 t190).f2)) := (blk_cell BK196.out 2).trans rfl; have hcz43_3 : w42.cell? ⟨gb196, 3, none⟩ = some (.int .u32 ((rd_T25 l0 t190).f3)) := (blk_cell BK196.out 3).trans rfl; have hcz43_4 : w42.cell? ⟨gb196, 4, none⟩ = some (.int .u32 ((rd_T25 l0 t190).f4)) := (blk_cell BK196.out 4).trans rfl; have hcz43_5 : w42.cell? ⟨gb196, 5, none⟩ = some (.int .u32 ((rd_T25 l0 t190).f5)) := (blk_cell BK196.out 5).trans rfl; have hcz43_6 : w42.cell? ⟨gb196, 6, none⟩ = some (.int .u32 ((rd_T25 l0 t190).f6)) := (blk_cell BK196.out 6).trans rfl; have hcz43_7 : w42.cell? ⟨gb196, 7, none⟩ = some (.int .u32 ((rd_T25 l0 t190).f7)) := (blk_cell BK196.out 7).trans rfl; have hcz43_8 : w42.cell? ⟨gb196, 8, none⟩ = some (.int .i64 ((rd_T25 l0 t190).f8)) := (blk_cell BK196.out 8).trans rfl; have hfz43_0 := blk_frozen BK196.out 0; have hfz43_1 := blk_frozen BK196.out 1; have hfz43_2 := blk_frozen BK196.out 2; have hfz43_3 := blk_frozen BK196.out 3; have hfz43_4 := blk_frozen BK196.out 4; have hfz43_5 := blk_frozen BK196.out 5; have hfz43_6 := blk_frozen BK196.out 6; have hfz43_7 := blk_frozen BK196.out 7; have hfz43_8 := blk_frozen BK196.out 8) | ((with_reducible refine gate_store (t := 3) (p := 137) rfl ?_); (try (rw [drewN_self w42]; generalize hq_ : World.drewN w42 _ = w42; have n0_ := Aside0.mk (blk_at hq_ BK196.out); have n1_ := Aside0.mk (below_at hq_ HB.out); clear hq_ BK196 HB; have BK196 := n0_; have HB := n1_; clear n0_ n1_)); refine store_event (t := 3) (p := 137) (v := ?vo_w44) (w1 := (w42.setCell ⟨gb196, 8, none⟩ (.int .i64 (wrap64 (1 + (Int.tmod ((rd_T25 l0 t190).f8) 3)))))) ?hg ?ho ?hn ?hr ?_; (case ho => rfl); (case hg => rfl); (case hn => rfl); (case hr => first | (go_simp; done) | (go_simp; rfl)); intro w44 hw; have n0_ : Aside0 (w44.heap[gb196]? = some (.cells #[.int .i64 ((rd_T25 l0 t190).f0), .int .i64 ((rd_T25 l0 t190).f1), .int .u32 ((rd_T25 l0 t190).f2), .int .u32 ((rd_T25 l0 t190).f3), .int .u32 ((rd_T25 l0 t190).f4), .int .u32 ((rd_T25 l0 t190).f5), .int .u32 ((rd_T25 l0 t190).f6), .int .u32 ((rd_T25 l0 t190).f7), .int .i64 (wrap64 (1 + (Int.tmod ((rd_T25 l0 t190).f8) 3)))] 25 (0, 0))) := ⟨(by rw [hw]; exact (by (with_reducible repeat (first | refine blk_drewN ?_ _ | refine blk_drew ?_ | refine blk_alloc ?_ _)); refine blk_put (cs := #[.int .i64 ((rd_T25 l0 t190).f0), .int .i64 ((rd_T25 l0 t190).f1), .int .u32 ((rd_T25 l0 t190).f2), .int .u32 ((rd_T25 l0 t190).f3), .int .u32 ((rd_T25 l0 t190).f4), .int .u32 ((rd_T25 l0 t190).f5), .int .u32 ((rd_T25 l0 t190).f6), .int .u32 ((rd_T25 l0 t190).f7), .int .i64 ((rd_T25 l0 t190).f8)]) ?_ 8 _ rfl; (with_reducible repeat (first | refine blk_drewN ?_ _ | refine blk_drew ?_ | refine blk_alloc ?_ _)); exact BK196.out))⟩; have n1_ : Aside0 (Below w.heap.size w w44) := ⟨(by rw [hw]; exact (by repeat (first | (with_reducible first | exact HB.out | apply below_alloc | apply pw_below_drewN | apply below_drew1 | refine below_set ?_ GE196.out) | exact HB.out)))⟩; clear hw; clear BK196; clear HB; have BK196 := n0_; have HB := n1_; clear n0_ n1_; have hcz45_0 : w44.cell? ⟨gb196, 0, none⟩ = some (.int .i64 ((rd_T25 l0 t190).f0)) := (blk_cell BK196.out 0).trans rfl; have hcz45_1 : w44.cell? ⟨gb196, 1, none⟩ = some (.int .i64 ((rd_T25 l0 t190).f1)) := (blk_cell BK196.out 1).trans rfl; have hcz45_2 : w44.cell? ⟨gb196, 2, none⟩ = some (.int .u32 ((rd_T25 l0 t190).f2)) := (blk_cell BK196.out 2).trans rfl; have hcz45_3 : w44.cell? ⟨gb196, 3, none⟩ = some (.int .u32 ((rd_T25 l0 t190).f3)) := (blk_cell BK196.out 3).trans rfl; have hcz45_4 : w44.cell? ⟨gb196, 4, none⟩ = some (.int .u32 ((rd_T25 l0 t190).f4)) := (blk_cell BK196.out 4).trans rfl; have hcz45_5 : w44.cell? ⟨gb196, 5, none⟩ = some (.int .u32 ((rd_T25 l0 t190).f5)) := (blk_cell BK196.out 5).trans rfl; have hcz45_6 : w44.cell? ⟨gb196, 6, none⟩ = some (.int .u32 ((rd_T25 l0 t190).f6)) := (blk_cell BK196.out 6).trans rfl; have hcz45_7 : w44.cell? ⟨gb196, 7, none⟩ = some (.int .u32 ((rd_T25 l0 t190).f7)) := (blk_cell BK196.out 7).trans rfl; have hcz45_8 : w44.cell? ⟨gb196, 8, none⟩ = some (.int .i64 (wrap64 (1 + (Int.tmod ((rd_T25 l0 t190).f8) 3)))) := (blk_cell BK196.out 8).trans rfl; have hfz45_0 := blk_frozen BK196.out 0; have hfz45_1 := blk_frozen BK196.out 1; have hfz45_2 := blk_frozen BK196.out 2; have hfz45_3 := blk_frozen BK196.out 3; have hfz45_4 := blk_frozen BK196.out 4; have hfz45_5 := blk_frozen BK196.out 5; have hfz45_6 := blk_frozen BK196.out 6; have hfz45_7 := blk_frozen BK196.out 7; have hfz45_8 := blk_frozen BK196.out 8) | (go_at_call 14; (with_reducible refine (runs_Set.calls (fun k_ => k_ < w.heap.size) _ _ l0 t190 ((rd_T25 l0 t190).f0) ((rd_T25 l0 t190).f1) ((rd_T25 l0 t190).f2) ((rd_T25 l0 t190).f3) ((rd_T25 l0 t190).f4) ((rd_T25 l0 t190).f5) ((rd_T25 l0 t190).f6) ((rd_T25 l0 t190).f7) (wrap64 (1 + (Int.tmod ((rd_T25 l0 t190).f8) 3))) t197 t200 _ ?side1 A36.out).mono ?_); (case side1 => exact Kd.V_mk HC0.out (Kd.F_below (Kd.C_F k25_heap HR0.out) (by repeat (first | (with_reducible first | exact HB.out | apply below_alloc | apply pw_below_drewN | apply below_drew1 | refine below_set ?_ GE196.out) | exact HB.out)))); rintro e w46 ⟨v198, rfl, ho0, hb⟩; have n0_ := Aside0.mk (Kd.V_lower (Kd.V_mono (ok' := fun k_ => k_ ≠ gb196) ho0 (fun k_ hk_ => Or.elim hk_ (fun hs_ => fun e_ => Nat.not_le.2 hs_ (by rw [e_]; exact GW196.out)) (fun hn_ => (Kd.freshB (g := gb196) (o := .cells #[.int .i64 ((rd_T25 l0 t190).f0), .int .i64 ((rd_T25 l0 t190).f1), .int .u32 ((rd_T25 l0 t190).f2), .int .u32 ((rd_T25 l0 t190).f3), .int .u32 ((rd_T25 l0 t190).f4), .int .u32 ((rd_T25 l0 t190).f5), .int .u32 ((rd_T25 l0 t190).f6), .int .u32 ((rd_T25 l0 t190).f7), .int .i64 (wrap64 (1 + (Int.tmod ((rd_T25 l0 t190).f8) 3)))] 25 (0, 0)) (by (with_reducible repeat (first | refine blk_drewN ?_ _ | refine blk_drew ?_ | refine blk_alloc ?_ _)); exact BK196.out) k_ hn_)))) (below_size (by repeat (first | (with_reducible first | exact HB.out | apply below_alloc | apply pw_below_drewN | apply below_drew1 | refine below_set ?_ GE196.out) | exact HB.out)))); have n1_ := Aside0.mk (blk_below (g := gb196) (o := .cells #[.int .i64 ((rd_T25 l0 t190).f0), .int .i64 ((rd_T25 l0 t190).f1), .int .u32 ((rd_T25 l0 t190).f2), .int .u32 ((rd_T25 l0 t190).f3), .int .u32 ((rd_T25 l0 t190).f4), .int .u32 ((rd_T25 l0 t190).f5), .int .u32 ((rd_T25 l0 t190).f6), .int .u32 ((rd_T25 l0 t190).f7), .int .i64 (wrap64 (1 + (Int.tmod ((rd_T25 l0 t190).f8) 3)))] 25 (0, 0)) (by (with_reducible repeat (first | refine blk_drewN ?_ _ | refine blk_drew ?_ | refine blk_alloc ?_ _)); exact BK196.out) hb); have n2_ := Aside0.mk (below_step (by repeat (first | (with_reducible first | exact HB.out | apply below_alloc | apply pw_below_drewN | apply below_drew1 | refine below_set ?_ GE196.out) | exact HB.out)) hb); clear BK196; clear HB; have HO199 := n0_; have BK196 := n1_; have HB := n2_; clear n0_ n1_ n2_; (try clear hb); (try clear hb2); (try clear hk); (try clear hi); (try clear ho0); obtain ⟨Ao47, co47, eo47⟩ := Kd.V_slice HO199.out; subst eo47) | (go_at_call 16; (with_reducible refine (runs_Next.calls kj24 _ _ t197 t190 a1 a2 a3 t201 t202 _ ?side1 ?side2 A37.out).mono ?_); (case side1 => repeat (first | exact (Kd.V_reads' HO199.out).2.2 | (with_reducible refine Kd.C_alloc ?_ _) | (with_reducible refine Kd.C_drewN ?_ _) | (with_reducible refine Kd.C_drew ?_))); (case side2 => exact (Kd.V_reads' HO199.out).2.1); rintro e w48 ⟨rfl, hb⟩; have n0_ := Aside0.mk (Kd.V_below (by (with_reducible repeat (first | apply Kd.V_alloc | apply Kd.V_drewN | apply Kd.V_drew)); exact HO199.out) hb); have n1_ := Aside0.mk (blk_below (g := gb196) (o := .cells #[.int .i64 ((rd_T25 l0 t190).f0), .int .i64 ((rd_T25 l0 t190).f1), .int .u32 ((rd_T25 l0 t190).f2), .int .u32 ((rd_T25 l0 t190).f3), .int .u32 ((rd_T25 l0 t190).f4), .int .u32 ((rd_T25 l0 t190).f5), .int .u32 ((rd_T25 l0 t190).f6), .int .u32 ((rd_T25 l0 t190).f7), .int .i64 (wrap64 (1 + (Int.tmod ((rd_T25 l0 t190).f8) 3)))] 25 (0, 0)) (by (with_reducible repeat (first | refine blk_drewN ?_ _ | refine blk_drew ?_ | refine blk_alloc ?_ _)); exact BK196.out) hb); have n2_ := Aside0.mk (below_step (by repeat (first | (with_reducible first | exact HB.out | apply below_alloc | apply pw_below_drewN | apply below_drew1 | refine below_set ?_ GE196.out) | exact HB.out)) hb); clear HO199; clear BK196; clear HB; have HO199 := n0_; have BK196 := n1_; have HB := n2_; clear n0_ n1_ n2_; (try clear hb); (try clear hb2); (try clear hk); (try clear hi)) | (go_at_call 16; (with_reducible refine (runs_Next.calls kj24 _ _ l0 (wrap64 (t190 + 1)) a1 a2 a3 t203 t204 _ ?side1 ?side2 A38.out).mono ?_); (case side1 => repeat (first | exact (Kd.C_below HR0.out HB.out) | (with_reducible refine Kd.C_alloc ?_ _) | (with_reducible refine Kd.C_drewN ?_ _) | (with_reducible refine Kd.C_drew ?_))); (case side2 => exact HC0.out); rintro e w49 ⟨rfl, hb⟩; have n0_ := Aside0.mk (Kd.V_below (by (with_reducible repeat (first | apply Kd.V_alloc | apply Kd.V_drewN | apply Kd.V_drew)); exact HO199.out) hb); have n1_ := Aside0.mk (blk_below (g := gb196) (o := .cells #[.int .i64 ((rd_T25 l0 t190).f0), .int .i64 ((rd_T25 l0 t190).f1), .int .u32 ((rd_T25 l0 t190).f2), .int .u32 ((rd_T25 l0 t190).f3), .int .u32 ((rd_T25 l0 t190).f4), .int .u32 ((rd_T25 l0 t190).f5), .int .u32 ((rd_T25 l0 t190).f6), .int .u32 ((rd_T25 l0 t190).f7), .int .i64 (wrap64 (1 + (Int.tmod ((rd_T25 l0 t190).f8) 3)))] 25 (0, 0)) (by (with_reducible repeat (first | refine blk_drewN ?_ _ | refine blk_drew ?_ | refine blk_alloc ?_ _)); exact BK196.out) hb); have n2_ := Aside0.mk (below_step (by repeat (first | (with_reducible first | exact HB.out | apply below_alloc | apply pw_below_drewN | apply below_drew1 | refine below_set ?_ GE196.out) | exact HB.out)) hb); clear HO199; clear BK196; clear HB; have HO199 := n0_; have BK196 := n1_; have HB := n2_; clear n0_ n1_ n2_; (try clear hb); (try clear hb2); (try clear hk); (try clear hi))))
                                (try simp only [Act.put, List.setIfInBounds_toArray, List.set_cons_zero, List.set_cons_succ])
                                go_cut [182] (fun v182 wc => ∃ (kq : Nat) (x182_38 : Bool), v182 = .bool x182_38 ∧ Aside0 (chamberlainlaw09_RunsOrder.j4 kq l0 a1 a2 a3 x9_2 x12_3 t190 t197 x182_38 = some r) ∧ Aside0 (kq ≤ kj24) ∧ Aside0 (Kd.V k25 25 wc w.heap.size (fun k_ => k_ ≠ gb196) (.slice Ao47 t197.length co47) t197) ∧ Aside0 (wc.heap[gb196]? = some (.cells #[.int .i64 ((rd_T25 l0 t190).f0), .int .i64 ((rd_T25 l0 t190).f1), .int .u32 ((rd_T25 l0 t190).f2), .int .u32 ((rd_T25 l0 t190).f3), .int .u32 ((rd_T25 l0 t190).f4), .int .u32 ((rd_T25 l0 t190).f5), .int .u32 ((rd_T25 l0 t190).f6), .int .u32 ((rd_T25 l0 t190).f7), .int .i64 (wrap64 (1 + (Int.tmod ((rd_T25 l0 t190).f8) 3)))] 25 (0, 0))) ∧ Aside0 (Below w.heap.size w wc))
                                case first =>
                                  have H := HC39.out
                                  clear HC39
                                  by_cases c50 : t200 = 0
                                  · rw [if_pos c50] at H
                                    have c50b0 : (t200 == 0) = true := beq_iff_eq.mpr c50
                                    have c50b1 : (t200 != 0) = false := bne_eq_false_iff_eq.mpr c50
                                    clear c50
                                    (first | rw [c50b0] | (simp only [i64_w, i32_w]; rw [c50b0]) | skip)
                                    by_cases c51 : (t197.length : Int) = (l0.length : Int)
                                    · rw [if_pos c51] at H
                                      have c51b0 : ((t197.length : Int) == (l0.length : Int)) = true := beq_iff_eq.mpr c51
                                      have c51b1 : ((t197.length : Int) != (l0.length : Int)) = false := bne_eq_false_iff_eq.mpr c51
                                      have c51b2 : (t197.length == l0.length) = true := by first | simpa using c51 | (simp at c51 ⊢; omega)
                                      clear c51
                                      by_cases c52 : (t202 != t204) = true
                                      · rw [if_pos c52] at H
                                        have c52b0 : (t202 != t204) = true := c52
                                        (try (have c52b1 : decide (t202 = t204) = false := by simpa using c52))
                                        (try (have c52b2 : (t202 == t204) = false := by simpa using c52))
                                        (try (have c52b3 : ¬ (t202 = t204) := by simpa using c52))
                                        clear c52
                                        have H' := Aside0.mk H
                                        clear H
                                        go_wp2
                                        repeat (go_quiet (fail); try go_wp2)
                                        go_meet
                                        case rel => exact ⟨_, (true), (by first | rfl | (simp; done) | (simp [*]; done)), H', ⟨by have := HJ4.out; have := HK2.out; have := HK3.out; have := HJ24.out; first | omega | exact Nat.le_refl _⟩, ⟨by (with_reducible repeat (first | apply Kd.V_alloc | apply Kd.V_drewN | apply Kd.V_drew)); exact HO199.out⟩, ⟨by (with_reducible repeat (first | refine blk_drewN ?_ _ | refine blk_drew ?_ | refine blk_alloc ?_ _)); exact BK196.out⟩, ⟨by repeat (first | (with_reducible first | exact HB.out | apply below_alloc | apply pw_below_drewN | apply below_drew1 | refine below_set ?_ GE196.out) | exact HB.out)⟩⟩
                                      · rw [if_neg c52] at H
                                        have c52b0 : (t202 != t204) = false := by simpa using c52
                                        (try (have c52b1 : decide (t202 = t204) = true := by simpa using c52))
                                        (try (have c52b2 : (t202 == t204) = true := by simpa using c52))
                                        clear c52
                                        have H' := Aside0.mk H
                                        clear H
                                        go_wp2
                                        repeat (go_quiet (fail); try go_wp2)
                                        go_meet
                                        case rel => exact ⟨_, ((t201 != t203)), (by first | rfl | (simp; done) | (simp [*]; done)), H', ⟨by have := HJ4.out; have := HK2.out; have := HK3.out; have := HJ24.out; first | omega | exact Nat.le_refl _⟩, ⟨by (with_reducible repeat (first | apply Kd.V_alloc | apply Kd.V_drewN | apply Kd.V_drew)); exact HO199.out⟩, ⟨by (with_reducible repeat (first | refine blk_drewN ?_ _ | refine blk_drew ?_ | refine blk_alloc ?_ _)); exact BK196.out⟩, ⟨by repeat (first | (with_reducible first | exact HB.out | apply below_alloc | apply pw_below_drewN | apply below_drew1 | refine below_set ?_ GE196.out) | exact HB.out)⟩⟩
                                    · rw [if_neg c51] at H
                                      have c51b0 : ((t197.length : Int) == (l0.length : Int)) = false := beq_eq_false_iff_ne.mpr c51
                                      have c51b1 : ((t197.length : Int) != (l0.length : Int)) = true := bne_iff_ne.mpr c51
                                      have c51b2 : (t197.length == l0.length) = false := by first | simpa using c51 | (simp at c51 ⊢; omega)
                                      have H' := Aside0.mk H
                                      clear H
                                      go_wp2
                                      repeat (go_quiet (fail); try go_wp2)
                                      go_meet
                                      case rel => exact ⟨_, (true), (by first | rfl | (simp; done) | (simp [*]; done)), H', ⟨by have := HJ4.out; have := HK2.out; have := HK3.out; have := HJ24.out; first | omega | exact Nat.le_refl _⟩, ⟨by (with_reducible repeat (first | apply Kd.V_alloc | apply Kd.V_drewN | apply Kd.V_drew)); exact HO199.out⟩, ⟨by (with_reducible repeat (first | refine blk_drewN ?_ _ | refine blk_drew ?_ | refine blk_alloc ?_ _)); exact BK196.out⟩, ⟨by repeat (first | (with_reducible first | exact HB.out | apply below_alloc | apply pw_below_drewN | apply below_drew1 | refine below_set ?_ GE196.out) | exact HB.out)⟩⟩
                                  · rw [if_neg c50] at H
                                    have c50b0 : (t200 == 0) = false := beq_eq_false_iff_ne.mpr c50
                                    have c50b1 : (t200 != 0) = true := bne_iff_ne.mpr c50
                                    (first | rw [c50b0] | (simp only [i64_w, i32_w]; rw [c50b0]) | skip)
                                    have H' := Aside0.mk H
                                    clear H
                                    go_wp2
                                    repeat (go_quiet (fail); try go_wp2)
                                    go_meet
                                    case rel => exact ⟨_, (true), (by first | rfl | (simp; done) | (simp [*]; done)), H', ⟨by have := HJ4.out; have := HK2.out; have := HK3.out; have := HJ24.out; first | omega | exact Nat.le_refl _⟩, ⟨by (with_reducible repeat (first | apply Kd.V_alloc | apply Kd.V_drewN | apply Kd.V_drew)); exact HO199.out⟩, ⟨by (with_reducible repeat (first | refine blk_drewN ?_ _ | refine blk_drew ?_ | refine blk_alloc ?_ _)); exact BK196.out⟩, ⟨by repeat (first | (with_reducible first | exact HB.out | apply below_alloc | apply pw_below_drewN | apply below_drew1 | refine below_set ?_ GE196.out) | exact HB.out)⟩⟩
                                case rest =>
                                  clear HC39
                                  try clear c1
                                  try clear p1
                                  try clear q1
                                  try clear hx1
                                  try clear c2
                                  try clear p2
                                  try clear c3
                                  try clear c4
                                  try clear c5
                                  try clear p6
                                  try clear c7
                                  try clear c8
                                  try clear c8b0
                                  try clear c8b1
                                  try clear c14
                                  try clear c17
                                  try clear c17b0
                                  try clear c18
                                  try clear c18b0
                                  try clear p18
                                  try clear q18
                                  try clear hx18
                                  try clear c19
                                  try clear c19b0
                                  try clear c19b1
                                  try clear p19
                                  try clear q19
                                  try clear hx19
                                  try clear c20
                                  try clear c20b0
                                  try clear c20b1
                                  try clear c21
                                  try clear c21b0
                                  try clear c21b1
                                  try clear c22
                                  try clear c22b0
                                  try clear c24
                                  try clear c27
                                  try clear c27b0
                                  try clear c28
                                  try clear c28b0
                                  try clear c29
                                  try clear c29b0
                                  try clear c30
                                  try clear c30b0
                                  try clear c31
                                  try clear c31b0
                                  try clear c31b1
                                  try clear c32
                                  try clear c32b0
                                  try clear c32b1
                                  try clear c33
                                  try clear c34
                                  try clear c34b0
                                  try clear c35
                                  try clear c35b0
                                  try clear c50
                                  try clear c50b0
                                  try clear c50b1
                                  try clear c51
                                  try clear c51b0
                                  try clear c51b1
                                  try clear c51b2
                                  try clear c52
                                  try clear c52b0
                                  try clear c52b1
                                  try clear c52b2
                                  try clear hcz41_0
                                  try clear hcz41_1
                                  try clear hcz41_2
                                  try clear hcz41_3
                                  try clear hcz41_4
                                  try clear hcz41_5
                                  try clear hcz41_6
                                  try clear hcz41_7
                                  try clear hcz41_8
                                  try clear hcz43_0
                                  try clear hcz43_1
                                  try clear hcz43_2
                                  try clear hcz43_3
                                  try clear hcz43_4
                                  try clear hcz43_5
                                  try clear hcz43_6
                                  try clear hcz43_7
                                  try clear hcz43_8
                                  try clear hcz45_0
                                  try clear hcz45_1
                                  try clear hcz45_2
                                  try clear hcz45_3
                                  try clear hcz45_4
                                  try clear hcz45_5
                                  try clear hcz45_6
                                  try clear hcz45_7
                                  try clear hcz45_8
                                  try clear hfz41_0
                                  try clear hfz41_1
                                  try clear hfz41_2
                                  try clear hfz41_3
                                  try clear hfz41_4
                                  try clear hfz41_5
                                  try clear hfz41_6
                                  try clear hfz41_7
                                  try clear hfz41_8
                                  try clear hfz43_0
                                  try clear hfz43_1
                                  try clear hfz43_2
                                  try clear hfz43_3
                                  try clear hfz43_4
                                  try clear hfz43_5
                                  try clear hfz43_6
                                  try clear hfz43_7
                                  try clear hfz43_8
                                  try clear hfz45_0
                                  try clear hfz45_1
                                  try clear hfz45_2
                                  try clear hfz45_3
                                  try clear hfz45_4
                                  try clear hfz45_5
                                  try clear hfz45_6
                                  try clear hfz45_7
                                  try clear hfz45_8
                                  try clear hx187_0
                                  try clear hx187_1
                                  try clear hx187_2
                                  try clear hx187_3
                                  try clear hx187_4
                                  try clear hx187_5
                                  try clear hx187_6
                                  try clear hx187_7
                                  try clear hx187_8
                                  try clear hx188_0
                                  try clear hx188_1
                                  try clear hx188_2
                                  try clear hx188_3
                                  try clear hx188_4
                                  try clear hx188_5
                                  try clear hx188_6
                                  try clear hx188_7
                                  try clear hx188_8
                                  try clear hx189_0
                                  try clear hx189_1
                                  try clear hx189_2
                                  try clear hx189_3
                                  try clear hx189_4
                                  try clear hx189_5
                                  try clear hx189_6
                                  try clear hx189_7
                                  try clear hx189_8
                                  try clear hx192_0
                                  try clear hx192_1
                                  try clear hx192_2
                                  try clear hx192_3
                                  try clear hx192_4
                                  try clear hx192_5
                                  try clear hx192_6
                                  try clear hx192_7
                                  try clear hx192_8
                                  try clear hx193_0
                                  try clear hx193_1
                                  try clear hx193_2
                                  try clear hx193_3
                                  try clear hx193_4
                                  try clear hx193_5
                                  try clear hx193_6
                                  try clear hx193_7
                                  try clear hx193_8
                                  try clear hx194_0
                                  try clear hx194_1
                                  try clear hx194_2
                                  try clear hx194_3
                                  try clear hx194_4
                                  try clear hx194_5
                                  try clear hx194_6
                                  try clear hx194_7
                                  try clear hx194_8
                                  try clear hx195_0
                                  try clear hx195_1
                                  try clear hx195_2
                                  try clear hx195_3
                                  try clear hx195_4
                                  try clear hx195_5
                                  try clear hx195_6
                                  try clear hx195_7
                                  try clear hx195_8
                                  try clear p1
                                  try clear p18
                                  try clear p187
                                  try clear p188
                                  try clear p189
                                  try clear p19
                                  try clear p192
                                  try clear p193
                                  try clear p194
                                  try clear p195
                                  try clear p2
                                  try clear p6
                                  try clear q1
                                  try clear q18
                                  try clear q187
                                  try clear q188
                                  try clear q189
                                  try clear q19
                                  try clear q192
                                  try clear q193
                                  try clear q194
                                  try clear q195
                                  obtain ⟨kq, x182_38, rfl, HA, HJ38, HO_16, BK196, HB⟩ := hcut
                                  cases kq with
                                  | zero => exact absurd HA.out (by simp [chamberlainlaw09_RunsOrder.j4])
                                  | succ kj38 =>
                                    have H := HA.out
                                    clear HA
                                    simp only [chamberlainlaw09_RunsOrder.j4] at H
                                    by_cases c53 : x182_38 = true
                                    · subst c53
                                      have H1 : (some false) = some r := by rw [if_pos rfl] at H; exact H
                                      clear H
                                      have H := H1
                                      clear H1
                                      exact absurd (hT.out.symm.trans (Option.some.inj H).symm) (by decide)
                                    · replace c53 := Bool.eq_false_iff.mpr c53
                                      subst c53
                                      have H1 : (chamberlainlaw09_RunsOrder.l2 kj38 l0 a1 a2 a3 x9_2 x12_3 t190 t197 0) = some r := by rw [if_neg (show ¬ (false = true) by decide)] at H; exact H
                                      clear H
                                      have H := H1
                                      clear H1
                                      have H' := Aside0.mk H
                                      clear H
                                      go_wp2
                                      repeat (go_quiet (fail); try go_wp2)
                                      go_loopg [22] kj38 (fun kq v22 w' => ∃ (x22_6 : Int), v22 = .int .i64 x22_6 ∧ Aside0 (chamberlainlaw09_RunsOrder.l2 kq l0 a1 a2 a3 x9_2 x12_3 t190 t197 x22_6 = some r) ∧ Aside0 (kq ≤ kj38) ∧ Aside0 (Kd.V k25 25 w' w.heap.size (fun k_ => k_ ≠ gb196) (.slice Ao47 t197.length co47) t197) ∧ Aside0 (w'.heap[gb196]? = some (.cells #[.int .i64 ((rd_T25 l0 t190).f0), .int .i64 ((rd_T25 l0 t190).f1), .int .u32 ((rd_T25 l0 t190).f2), .int .u32 ((rd_T25 l0 t190).f3), .int .u32 ((rd_T25 l0 t190).f4), .int .u32 ((rd_T25 l0 t190).f5), .int .u32 ((rd_T25 l0 t190).f6), .int .u32 ((rd_T25 l0 t190).f7), .int .i64 (wrap64 (1 + (Int.tmod ((rd_T25 l0 t190).f8) 3)))] 25 (0, 0))) ∧ Aside0 (Below w.heap.size w w'))
                                      case atStart => exact ⟨(0), (by first | rfl | (simp; done) | (simp [*]; done)), H', ⟨Nat.le_refl _⟩, ⟨by (with_reducible repeat (first | apply Kd.V_alloc | apply Kd.V_drewN | apply Kd.V_drew)); exact HO_16.out⟩, ⟨by (with_reducible repeat (first | refine blk_drewN ?_ _ | refine blk_drew ?_ | refine blk_alloc ?_ _)); exact BK196.out⟩, ⟨by repeat (first | (with_reducible first | exact HB.out | apply below_alloc | apply pw_below_drewN | apply below_drew1 | refine below_set ?_ GE196.out) | exact HB.out)⟩⟩
                                      case round =>
                                        clear H'
                                        try clear c1
                                        try clear p1
                                        try clear q1
                                        try clear hx1
                                        try clear c2
                                        try clear p2
                                        try clear c3
                                        try clear c4
                                        try clear c5
                                        try clear p6
                                        try clear c7
                                        try clear c8
                                        try clear c8b0
                                        try clear c8b1
                                        try clear c14
                                        try clear c17
                                        try clear c17b0
                                        try clear c18
                                        try clear c18b0
                                        try clear p18
                                        try clear q18
                                        try clear hx18
                                        try clear c19
                                        try clear c19b0
                                        try clear c19b1
                                        try clear p19
                                        try clear q19
                                        try clear hx19
                                        try clear c20
                                        try clear c20b0
                                        try clear c20b1
                                        try clear c21
                                        try clear c21b0
                                        try clear c21b1
                                        try clear c22
                                        try clear c22b0
                                        try clear c24
                                        try clear c27
                                        try clear c27b0
                                        try clear c28
                                        try clear c28b0
                                        try clear c29
                                        try clear c29b0
                                        try clear c30
                                        try clear c30b0
                                        try clear c31
                                        try clear c31b0
                                        try clear c31b1
                                        try clear c32
                                        try clear c32b0
                                        try clear c32b1
                                        try clear c33
                                        try clear c34
                                        try clear c34b0
                                        try clear c35
                                        try clear c35b0
                                        try clear c50
                                        try clear c50b0
                                        try clear c50b1
                                        try clear c51
                                        try clear c51b0
                                        try clear c51b1
                                        try clear c51b2
                                        try clear c52
                                        try clear c52b0
                                        try clear c52b1
                                        try clear c52b2
                                        try clear c53
                                        try clear hcz41_0
                                        try clear hcz41_1
                                        try clear hcz41_2
                                        try clear hcz41_3
                                        try clear hcz41_4
                                        try clear hcz41_5
                                        try clear hcz41_6
                                        try clear hcz41_7
                                        try clear hcz41_8
                                        try clear hcz43_0
                                        try clear hcz43_1
                                        try clear hcz43_2
                                        try clear hcz43_3
                                        try clear hcz43_4
                                        try clear hcz43_5
                                        try clear hcz43_6
                                        try clear hcz43_7
                                        try clear hcz43_8
                                        try clear hcz45_0
                                        try clear hcz45_1
                                        try clear hcz45_2
                                        try clear hcz45_3
                                        try clear hcz45_4
                                        try clear hcz45_5
                                        try clear hcz45_6
                                        try clear hcz45_7
                                        try clear hcz45_8
                                        try clear hfz41_0
                                        try clear hfz41_1
                                        try clear hfz41_2
                                        try clear hfz41_3
                                        try clear hfz41_4
                                        try clear hfz41_5
                                        try clear hfz41_6
                                        try clear hfz41_7
                                        try clear hfz41_8
                                        try clear hfz43_0
                                        try clear hfz43_1
                                        try clear hfz43_2
                                        try clear hfz43_3
                                        try clear hfz43_4
                                        try clear hfz43_5
                                        try clear hfz43_6
                                        try clear hfz43_7
                                        try clear hfz43_8
                                        try clear hfz45_0
                                        try clear hfz45_1
                                        try clear hfz45_2
                                        try clear hfz45_3
                                        try clear hfz45_4
                                        try clear hfz45_5
                                        try clear hfz45_6
                                        try clear hfz45_7
                                        try clear hfz45_8
                                        try clear hx187_0
                                        try clear hx187_1
                                        try clear hx187_2
                                        try clear hx187_3
                                        try clear hx187_4
                                        try clear hx187_5
                                        try clear hx187_6
                                        try clear hx187_7
                                        try clear hx187_8
                                        try clear hx188_0
                                        try clear hx188_1
                                        try clear hx188_2
                                        try clear hx188_3
                                        try clear hx188_4
                                        try clear hx188_5
                                        try clear hx188_6
                                        try clear hx188_7
                                        try clear hx188_8
                                        try clear hx189_0
                                        try clear hx189_1
                                        try clear hx189_2
                                        try clear hx189_3
                                        try clear hx189_4
                                        try clear hx189_5
                                        try clear hx189_6
                                        try clear hx189_7
                                        try clear hx189_8
                                        try clear hx192_0
                                        try clear hx192_1
                                        try clear hx192_2
                                        try clear hx192_3
                                        try clear hx192_4
                                        try clear hx192_5
                                        try clear hx192_6
                                        try clear hx192_7
                                        try clear hx192_8
                                        try clear hx193_0
                                        try clear hx193_1
                                        try clear hx193_2
                                        try clear hx193_3
                                        try clear hx193_4
                                        try clear hx193_5
                                        try clear hx193_6
                                        try clear hx193_7
                                        try clear hx193_8
                                        try clear hx194_0
                                        try clear hx194_1
                                        try clear hx194_2
                                        try clear hx194_3
                                        try clear hx194_4
                                        try clear hx194_5
                                        try clear hx194_6
                                        try clear hx194_7
                                        try clear hx194_8
                                        try clear hx195_0
                                        try clear hx195_1
                                        try clear hx195_2
                                        try clear hx195_3
                                        try clear hx195_4
                                        try clear hx195_5
                                        try clear hx195_6
                                        try clear hx195_7
                                        try clear hx195_8
                                        try clear p1
                                        try clear p18
                                        try clear p187
                                        try clear p188
                                        try clear p189
                                        try clear p19
                                        try clear p192
                                        try clear p193
                                        try clear p194
                                        try clear p195
                                        try clear p2
                                        try clear p6
                                        try clear q1
                                        try clear q18
                                        try clear q187
                                        try clear q188
                                        try clear q189
                                        try clear q19
                                        try clear q192
                                        try clear q193
                                        try clear q194
                                        try clear q195
                                        obtain ⟨x22_6, rfl, HA, HK6, HO_16, BK196, HB⟩ := hrel
                                        cases gk with
                                        | zero => exact absurd HA.out (by simp [chamberlainlaw09_RunsOrder.l2])
                                        | succ k6 =>
                                          have H := HA.out
                                          clear HA
                                          simp only [chamberlainlaw09_RunsOrder.l2] at H
                                          by_cases c54 : x22_6 < (l0.length : Int)
                                          · rw [if_pos c54] at H
                                            have c54b0 : decide (x22_6 < (l0.length : Int)) = true := decide_eq_true c54
                                            clear c54
                                            by_cases c55 : x22_6 = t190
                                            · rw [if_pos c55] at H
                                              have c55b0 : (x22_6 == t190) = true := beq_iff_eq.mpr c55
                                              have c55b1 : (x22_6 != t190) = false := bne_eq_false_iff_eq.mpr c55
                                              clear c55
                                              have H' := Aside0.mk H
                                              clear H
                                              go_wp2
                                              repeat (go_quiet (fail); try go_wp2)
                                              go_roundg k6
                                              case measure => have := HJ4.out; have := HK2.out; have := HK3.out; have := HJ24.out; have := HJ38.out; have := HK6.out; omega
                                              case rel => exact ⟨(wrap64 (x22_6 + 1)), (by first | rfl | (simp; done) | (simp [*]; done)), H', ⟨by have := HJ4.out; have := HK2.out; have := HK3.out; have := HJ24.out; have := HJ38.out; have := HK6.out; omega⟩, ⟨by (with_reducible repeat (first | apply Kd.V_alloc | apply Kd.V_drewN | apply Kd.V_drew)); exact HO_16.out⟩, ⟨by (with_reducible repeat (first | refine blk_drewN ?_ _ | refine blk_drew ?_ | refine blk_alloc ?_ _)); exact BK196.out⟩, ⟨by repeat (first | (with_reducible first | exact HB.out | apply below_alloc | apply pw_below_drewN | apply below_drew1 | refine below_set ?_ GE196.out) | exact HB.out)⟩⟩
                                            · rw [if_neg c55] at H
                                              have c55b0 : (x22_6 == t190) = false := beq_eq_false_iff_ne.mpr c55
                                              have c55b1 : (x22_6 != t190) = true := bne_iff_ne.mpr c55
                                              by_cases c56 : 0 ≤ x22_6
                                              · rw [if_pos c56] at H
                                                have c56b0 : decide (0 ≤ x22_6) = true := decide_eq_true c56
                                                clear c56
                                                by_cases c57 : x22_6 < (t197.length : Int)
                                                · rw [if_pos c57] at H
                                                  have c57b0 : decide (x22_6 < (t197.length : Int)) = true := decide_eq_true c57
                                                  clear c57
                                                  by_cases c58 : (!(((rd_T25 t197 x22_6).f0) == ((rd_T25 l0 x22_6).f0)) || (!(((rd_T25 t197 x22_6).f1) == ((rd_T25 l0 x22_6).f1)) || (!(((rd_T25 t197 x22_6).f2) == ((rd_T25 l0 x22_6).f2)) || (!(((rd_T25 t197 x22_6).f3) == ((rd_T25 l0 x22_6).f3)) || (!(((rd_T25 t197 x22_6).f4) == ((rd_T25 l0 x22_6).f4)) || (!(((rd_T25 t197 x22_6).f5) == ((rd_T25 l0 x22_6).f5)) || (!(((rd_T25 t197 x22_6).f6) == ((rd_T25 l0 x22_6).f6)) || (!(((rd_T25 t197 x22_6).f7) == ((rd_T25 l0 x22_6).f7)) || (!(((rd_T25 t197 x22_6).f8) == ((rd_T25 l0 x22_6).f8))))))))))) = true
                                                  · rw [if_pos c58] at H
                                                    have c58b0 : (!(((rd_T25 t197 x22_6).f0) == ((rd_T25 l0 x22_6).f0)) || (!(((rd_T25 t197 x22_6).f1) == ((rd_T25 l0 x22_6).f1)) || (!(((rd_T25 t197 x22_6).f2) == ((rd_T25 l0 x22_6).f2)) || (!(((rd_T25 t197 x22_6).f3) == ((rd_T25 l0 x22_6).f3)) || (!(((rd_T25 t197 x22_6).f4) == ((rd_T25 l0 x22_6).f4)) || (!(((rd_T25 t197 x22_6).f5) == ((rd_T25 l0 x22_6).f5)) || (!(((rd_T25 t197 x22_6).f6) == ((rd_T25 l0 x22_6).f6)) || (!(((rd_T25 t197 x22_6).f7) == ((rd_T25 l0 x22_6).f7)) || (!(((rd_T25 t197 x22_6).f8) == ((rd_T25 l0 x22_6).f8))))))))))) = true := c58
                                                    clear c58
                                                    exact absurd (hT.out.symm.trans (Option.some.inj H).symm) (by decide)
                                                  · rw [if_neg c58] at H
                                                    have c58b0 : (!(((rd_T25 t197 x22_6).f0) == ((rd_T25 l0 x22_6).f0)) || (!(((rd_T25 t197 x22_6).f1) == ((rd_T25 l0 x22_6).f1)) || (!(((rd_T25 t197 x22_6).f2) == ((rd_T25 l0 x22_6).f2)) || (!(((rd_T25 t197 x22_6).f3) == ((rd_T25 l0 x22_6).f3)) || (!(((rd_T25 t197 x22_6).f4) == ((rd_T25 l0 x22_6).f4)) || (!(((rd_T25 t197 x22_6).f5) == ((rd_T25 l0 x22_6).f5)) || (!(((rd_T25 t197 x22_6).f6) == ((rd_T25 l0 x22_6).f6)) || (!(((rd_T25 t197 x22_6).f7) == ((rd_T25 l0 x22_6).f7)) || (!(((rd_T25 t197 x22_6).f8) == ((rd_T25 l0 x22_6).f8))))))))))) = false := by simpa using c58
                                                    clear c58
                                                    have H' := Aside0.mk H
                                                    clear H
                                                    have p205 : 0 ≤ (x22_6 : Int) := of_decide_eq_true (by first | (with_reducible assumption) | assumption)
                                                    have q205 : x22_6 < (t197.length : Int) := of_decide_eq_true (by first | (with_reducible assumption) | assumption)
                                                    obtain ⟨ad205, e205, hx205_0, hx205_1, hx205_2, hx205_3, hx205_4, hx205_5, hx205_6, hx205_7, hx205_8⟩ := at_T25 (Kd.V_reads' HO_16.out).2.2 x22_6 p205 q205
                                                    cases e205
                                                    replace p205 := eq_true p205
                                                    replace q205 := eq_true q205
                                                    have p206 : 0 ≤ (x22_6 : Int) := of_decide_eq_true (by first | (with_reducible assumption) | assumption)
                                                    have q206 : x22_6 < (l0.length : Int) := of_decide_eq_true (by first | (with_reducible assumption) | assumption)
                                                    obtain ⟨ad206, e206, hx206_0, hx206_1, hx206_2, hx206_3, hx206_4, hx206_5, hx206_6, hx206_7, hx206_8⟩ := at_T25 HR0.out x22_6 p206 q206
                                                    obtain rfl : ad195 = ad206 := (by injection e206)
                                                    replace hx206_0 := (HB.out.cell (World.block_lt_of_cell? w _ hx206_0)).trans hx206_0
                                                    replace hx206_1 := (HB.out.cell (World.block_lt_of_cell? w _ hx206_1)).trans hx206_1
                                                    replace hx206_2 := (HB.out.cell (World.block_lt_of_cell? w _ hx206_2)).trans hx206_2
                                                    replace hx206_3 := (HB.out.cell (World.block_lt_of_cell? w _ hx206_3)).trans hx206_3
                                                    replace hx206_4 := (HB.out.cell (World.block_lt_of_cell? w _ hx206_4)).trans hx206_4
                                                    replace hx206_5 := (HB.out.cell (World.block_lt_of_cell? w _ hx206_5)).trans hx206_5
                                                    replace hx206_6 := (HB.out.cell (World.block_lt_of_cell? w _ hx206_6)).trans hx206_6
                                                    replace hx206_7 := (HB.out.cell (World.block_lt_of_cell? w _ hx206_7)).trans hx206_7
                                                    replace hx206_8 := (HB.out.cell (World.block_lt_of_cell? w _ hx206_8)).trans hx206_8
                                                    replace p206 := eq_true p206
                                                    replace q206 := eq_true q206
                                                    go_wp2
                                                    repeat (go_quiet (fail); try go_wp2)
                                                    go_roundg k6
                                                    case measure => have := HJ4.out; have := HK2.out; have := HK3.out; have := HJ24.out; have := HJ38.out; have := HK6.out; omega
                                                    case rel => exact ⟨(wrap64 (x22_6 + 1)), (by first | rfl | (simp; done) | (simp [*]; done)), H', ⟨by have := HJ4.out; have := HK2.out; have := HK3.out; have := HJ24.out; have := HJ38.out; have := HK6.out; omega⟩, ⟨by (with_reducible repeat (first | apply Kd.V_alloc | apply Kd.V_drewN | apply Kd.V_drew)); exact HO_16.out⟩, ⟨by (with_reducible repeat (first | refine blk_drewN ?_ _ | refine blk_drew ?_ | refine blk_alloc ?_ _)); exact BK196.out⟩, ⟨by repeat (first | (with_reducible first | exact HB.out | apply below_alloc | apply pw_below_drewN | apply below_drew1 | refine below_set ?_ GE196.out) | exact HB.out)⟩⟩
                                                · rw [if_neg c57] at H
                                                  exact absurd H (by simp)
                                              · rw [if_neg c56] at H
                                                exact absurd H (by simp)
                                          · rw [if_neg c54] at H
                                            have c54b0 : decide (x22_6 < (l0.length : Int)) = false := decide_eq_false c54
                                            clear c54
                                            have H' := Aside0.mk H
                                            clear H
                                            go_wp2
                                            repeat (go_quiet (fail); try go_wp2)
                                            go_roundg k6
                                            case measure => have := HJ4.out; have := HK2.out; have := HK3.out; have := HJ24.out; have := HJ38.out; have := HK6.out; omega
                                            case rel => exact ⟨(wrap64 (t190 + 1)), (wrap64 (x12_3 + 1)), (by first | rfl | (simp; done) | (simp [*]; done)), (by first | rfl | (simp; done) | (simp [*]; done)), H', ⟨by have := HJ4.out; have := HK2.out; have := HK3.out; have := HJ24.out; have := HJ38.out; have := HK6.out; omega⟩, ⟨by repeat (first | (with_reducible first | exact HB.out | apply below_alloc | apply pw_below_drewN | apply below_drew1 | refine below_set ?_ GE196.out) | exact HB.out)⟩⟩
                              · rw [if_neg c35] at H
                                exact absurd H (by simp)
                            · rw [if_neg c34] at H
                              exact absurd H (by simp)
                    · replace c24 := Bool.eq_false_iff.mpr c24
                      subst c24
                      have H1 : (if x12_3 = x9_2 then (some (t190 == 0)) else (some false)) = some r := by rw [if_neg (show ¬ (false = true) by decide)] at H; exact H
                      clear H
                      have H := H1
                      clear H1
                      by_cases c59 : x12_3 = x9_2
                      · rw [if_pos c59] at H
                        have c59b0 : (x12_3 == x9_2) = true := beq_iff_eq.mpr c59
                        have c59b1 : (x12_3 != x9_2) = false := bne_eq_false_iff_eq.mpr c59
                        clear c59
                        obtain rfl := Option.some.inj H
                        go_wp2_with (first | (go_at_call 16; (with_reducible refine (runs_Next.calls k3 _ _ l0 x11_3 a1 a2 a3 t190 false _ ?side1 ?side2 A23.out).mono ?_); (case side1 => repeat (first | exact (Kd.C_below HR0.out HB.out) | (with_reducible refine Kd.C_alloc ?_ _) | (with_reducible refine Kd.C_drewN ?_ _) | (with_reducible refine Kd.C_drew ?_))); (case side2 => exact HC0.out); rintro e w60 ⟨rfl, hb⟩; have n0_ := Aside0.mk (below_step (by repeat (first | (with_reducible first | exact HB.out | apply below_alloc | apply pw_below_drewN | apply below_drew1) | exact HB.out)) hb); clear HB; have HB := n0_; clear n0_; (try clear hb); (try clear hb2); (try clear hk); (try clear hi)))
                        repeat (go_quiet (first | (go_at_call 16; (with_reducible refine (runs_Next.calls k3 _ _ l0 x11_3 a1 a2 a3 t190 false _ ?side1 ?side2 A23.out).mono ?_); (case side1 => repeat (first | exact (Kd.C_below HR0.out HB.out) | (with_reducible refine Kd.C_alloc ?_ _) | (with_reducible refine Kd.C_drewN ?_ _) | (with_reducible refine Kd.C_drew ?_))); (case side2 => exact HC0.out); rintro e w60 ⟨rfl, hb⟩; have n0_ := Aside0.mk (below_step (by repeat (first | (with_reducible first | exact HB.out | apply below_alloc | apply pw_below_drewN | apply below_drew1) | exact HB.out)) hb); clear HB; have HB := n0_; clear n0_; (try clear hb); (try clear hb2); (try clear hk); (try clear hi))); try go_wp2_with (first | (go_at_call 16; (with_reducible refine (runs_Next.calls k3 _ _ l0 x11_3 a1 a2 a3 t190 false _ ?side1 ?side2 A23.out).mono ?_); (case side1 => repeat (first | exact (Kd.C_below HR0.out HB.out) | (with_reducible refine Kd.C_alloc ?_ _) | (with_reducible refine Kd.C_drewN ?_ _) | (with_reducible refine Kd.C_drew ?_))); (case side2 => exact HC0.out); rintro e w60 ⟨rfl, hb⟩; have n0_ := Aside0.mk (below_step (by repeat (first | (with_reducible first | exact HB.out | apply below_alloc | apply pw_below_drewN | apply below_drew1) | exact HB.out)) hb); clear HB; have HB := n0_; clear n0_; (try clear hb); (try clear hb2); (try clear hk); (try clear hi))))
                        go_ret
                        exact ⟨by first | rfl | (simp [errW_none, errW_some] <;> rfl) | (simp [*, errW_none, errW_some] <;> rfl), by repeat (first | (with_reducible first | exact HB.out | apply below_alloc | apply pw_below_drewN | apply below_drew1) | exact HB.out)⟩
                      · rw [if_neg c59] at H
                        have c59b0 : (x12_3 == x9_2) = false := beq_eq_false_iff_ne.mpr c59
                        have c59b1 : (x12_3 != x9_2) = true := bne_iff_ne.mpr c59
                        exact absurd (hT.out.symm.trans (Option.some.inj H).symm) (by decide)
                  · rw [if_neg c22] at H
                    have c22b0 : decide (x12_3 ≤ (l0.length : Int)) = false := decide_eq_false c22
                    clear c22
                    exact absurd (hT.out.symm.trans (Option.some.inj H).symm) (by decide)

end Go.Proofs.Ytjhopebkflgcbaa.PRunsOrder
