-- Written for this claim by wip/tools/myprint.py (print.py's forms; proofs of the faked functions by hand).
import Derived.Test.YtlbfdmoocgjiaaaPNetRoomx0
import Derived.Test.YtlbfdmoocgjiaaaPNetRoomx1
import Derived.Test.YtlbfdmoocgjiaaaPNetRoomx2
import Derived.Test.YtlbfdmoocgjiaaaPNetRoomx3
import Derived.Test.YtlbfdmoocgjiaaaPNetRoomx4
import Derived.Test.YtlbfdmoocgjiaaaPNetRoomx5
namespace Go.Proofs.Ytlbfdmoocgjiaaa.PNetRoom
open Go.RowKit Go.Proofs.YtlbfdmoocgjiaaaW.PrintWords Go.Proofs.YtlbfdmoocgjiaaaW.PrintLast Go.Proofs.YtlbfdmoocgjiaaaW.PrintMore
attribute [local go_sem] max2_int min2_int max_two min_two max_three min_three max_four min_four   -- for this text's walks alone
set_option linter.unusedVariables false
set_option linter.unusedSimpArgs false

/-! ### chamberlainlaw06_NetRoom: function 7 -/
mutual
def chamberlainlaw06_NetRoom.j0 : Nat → Int → Bool → Int → List (S29) → List (List Int) → Int → List Int → Option (Bool)
  | 0, _, _, _, _, _, _, _ => none
  | k + 1, x2, x36, x293000, x293001, x293002, x294000, x294001 => if x36 = true then ((chamberlainlaw06_awake.f k).bind fun t297 => (some t297)) else ((net_Free.f x293000 x293001 x293002).bind fun t298 => ((net_Send.f x293000 x293001 x293002 x294000 x294001).bind fun bt299 => ((net_Double.f x293000 x293001 x293002 x2).bind fun bt308 => ((net_Take.f x293000 x293001 x293002 x2).bind fun bt317 => (if x2 ≥ 0 then (chamberlainlaw06_NetRoom.j1 k t298 bt299.2.2.2 bt308.2.2.2 bt317.2.2.2.2.2 (decide (x2 < (x293001.length : Int))) x293000 x293001 x293002 bt299.1 bt299.2.1 bt299.2.2.1 bt308.1 bt308.2.1 bt308.2.2.1 bt317.1 bt317.2.1 bt317.2.2.1 bt317.2.2.2.1 bt317.2.2.2.2.1) else (chamberlainlaw06_NetRoom.j1 k t298 bt299.2.2.2 bt308.2.2.2 bt317.2.2.2.2.2 false x293000 x293001 x293002 bt299.1 bt299.2.1 bt299.2.2.1 bt308.1 bt308.2.1 bt308.2.2.1 bt317.1 bt317.2.1 bt317.2.2.1 bt317.2.2.2.1 bt317.2.2.2.2.1))))))
def chamberlainlaw06_NetRoom.j1 : Nat → Int → Int → Int → Int → Bool → Int → List (S29) → List (List Int) → Int → List (S29) → List (List Int) → Int → List (S29) → List (List Int) → Int → List (S29) → List (List Int) → Int → List Int → Option (Bool)
  | 0, _, _, _, _, _, _, _, _, _, _, _, _, _, _, _, _, _, _, _ => none
  | k + 1, x7, x9, x11, x14, x15, x293000, x293001, x293002, x308000, x308001, x308002, x317000, x317001, x317002, x330000, x330001, x330002, x331000, x331001 => if ((x9 == 0) != (decide (x7 > 0))) = true then (chamberlainlaw06_NetRoom.j2 k x7 x9 x11 x14 true x293000 x293001 x293002 x308000 x308001 x308002 x317000 x317001 x317002 x330000 x330001 x330002 x331000 x331001) else (if ((x14 == 0) != x15) = true then (chamberlainlaw06_NetRoom.j2 k x7 x9 x11 x14 true x293000 x293001 x293002 x308000 x308001 x308002 x317000 x317001 x317002 x330000 x330001 x330002 x331000 x331001) else (if x15 = true then (chamberlainlaw06_NetRoom.j2 k x7 x9 x11 x14 ((x11 == 0) != (decide (x7 > 0))) x293000 x293001 x293002 x308000 x308001 x308002 x317000 x317001 x317002 x330000 x330001 x330002 x331000 x331001) else (chamberlainlaw06_NetRoom.j2 k x7 x9 x11 x14 ((x11 == 0) != false) x293000 x293001 x293002 x308000 x308001 x308002 x317000 x317001 x317002 x330000 x330001 x330002 x331000 x331001)))
def chamberlainlaw06_NetRoom.j2 : Nat → Int → Int → Int → Int → Bool → Int → List (S29) → List (List Int) → Int → List (S29) → List (List Int) → Int → List (S29) → List (List Int) → Int → List (S29) → List (List Int) → Int → List Int → Option (Bool)
  | 0, _, _, _, _, _, _, _, _, _, _, _, _, _, _, _, _, _, _, _ => none
  | k + 1, x7, x9, x11, x14, x88, x293000, x293001, x293002, x308000, x308001, x308002, x317000, x317001, x317002, x330000, x330001, x330002, x331000, x331001 => if x88 = true then (some false) else (if x9 = 0 then ((net_Free.f x308000 x308001 x308002).bind fun t331 => (if t331 = (wrap64 (x7 - 1)) then (if x14 = 0 then ((net_Free.f x330000 x330001 x330002).bind fun t332 => (if t332 = (wrap64 (x7 + 1)) then (if x11 = 0 then ((net_Free.f x317000 x317001 x317002).bind fun t333 => (chamberlainlaw06_NetRoom.j3 k x11 (t333 != (wrap64 (x7 - 1))) x293000 x293001 x293002 x317000 x317001 x317002 x331000 x331001)) else (chamberlainlaw06_NetRoom.j3 k x11 false x293000 x293001 x293002 x317000 x317001 x317002 x331000 x331001)) else (chamberlainlaw06_NetRoom.j3 k x11 true x293000 x293001 x293002 x317000 x317001 x317002 x331000 x331001))) else (if x11 = 0 then ((net_Free.f x317000 x317001 x317002).bind fun t334 => (chamberlainlaw06_NetRoom.j3 k x11 (t334 != (wrap64 (x7 - 1))) x293000 x293001 x293002 x317000 x317001 x317002 x331000 x331001)) else (chamberlainlaw06_NetRoom.j3 k x11 false x293000 x293001 x293002 x317000 x317001 x317002 x331000 x331001))) else (chamberlainlaw06_NetRoom.j3 k x11 true x293000 x293001 x293002 x317000 x317001 x317002 x331000 x331001))) else (if x14 = 0 then ((net_Free.f x330000 x330001 x330002).bind fun t335 => (if t335 = (wrap64 (x7 + 1)) then (if x11 = 0 then ((net_Free.f x317000 x317001 x317002).bind fun t336 => (chamberlainlaw06_NetRoom.j3 k x11 (t336 != (wrap64 (x7 - 1))) x293000 x293001 x293002 x317000 x317001 x317002 x331000 x331001)) else (chamberlainlaw06_NetRoom.j3 k x11 false x293000 x293001 x293002 x317000 x317001 x317002 x331000 x331001)) else (chamberlainlaw06_NetRoom.j3 k x11 true x293000 x293001 x293002 x317000 x317001 x317002 x331000 x331001))) else (if x11 = 0 then ((net_Free.f x317000 x317001 x317002).bind fun t337 => (chamberlainlaw06_NetRoom.j3 k x11 (t337 != (wrap64 (x7 - 1))) x293000 x293001 x293002 x317000 x317001 x317002 x331000 x331001)) else (chamberlainlaw06_NetRoom.j3 k x11 false x293000 x293001 x293002 x317000 x317001 x317002 x331000 x331001))))
def chamberlainlaw06_NetRoom.j3 : Nat → Int → Bool → Int → List (S29) → List (List Int) → Int → List (S29) → List (List Int) → Int → List Int → Option (Bool)
  | 0, _, _, _, _, _, _, _, _, _, _ => none
  | k + 1, x11, x119, x293000, x293001, x293002, x317000, x317001, x317002, x331000, x331001 => if x119 = true then (some false) else (if x11 = 0 then ((net_Take.f x317000 x317001 x317002 (x293001.length : Int)).bind fun bt338 => (if bt338.2.2.2.2.2 = 0 then ((chamberlainref06_One.f k x331000 x331001 bt338.2.2.2.1 bt338.2.2.2.2.1).bind fun t352 => (if t352 = true then ((chamberlainref06_Same.f k bt338.1 bt338.2.1 bt338.2.2.1 x293000 x293001 x293002).bind fun t353 => (some t353)) else (some false))) else (some false))) else (some true))
end
def chamberlainlaw06_NetRoom.f (k : Nat) (a0_0 : Int) (l0_1 : List (S29)) (l0_2 : List (List Int)) (a1_0 : Int) (l1_1 : List Int) (a2 : Int) : Option (Bool) := (chamberlainlaw06_awake.f k).bind fun t294 => (if t294 = true then ((chamberlainref06_Few.f k a0_0 l0_1 l0_2).bind fun t295 => (if t295 = true then ((chamberlainref06_Right.f a0_0 l0_1 l0_2).bind fun t296 => (if t296 = true then (chamberlainlaw06_NetRoom.j0 k a2 (decide ((l1_1.length : Int) > 100)) a0_0 l0_1 l0_2 a1_0 l1_1) else (chamberlainlaw06_NetRoom.j0 k a2 true a0_0 l0_1 l0_2 a1_0 l1_1))) else (chamberlainlaw06_NetRoom.j0 k a2 true a0_0 l0_1 l0_2 a1_0 l1_1))) else (chamberlainlaw06_NetRoom.j0 k a2 true a0_0 l0_1 l0_2 a1_0 l1_1))
theorem chamberlainlaw06_NetRoom.mono_l : ∀ k, (∀ y0 y1 y2 y3 y4 y5 y6, LeO (chamberlainlaw06_NetRoom.j0 k y0 y1 y2 y3 y4 y5 y6) (chamberlainlaw06_NetRoom.j0 (k + 1) y0 y1 y2 y3 y4 y5 y6)) ∧ (∀ y0 y1 y2 y3 y4 y5 y6 y7 y8 y9 y10 y11 y12 y13 y14 y15 y16 y17 y18, LeO (chamberlainlaw06_NetRoom.j1 k y0 y1 y2 y3 y4 y5 y6 y7 y8 y9 y10 y11 y12 y13 y14 y15 y16 y17 y18) (chamberlainlaw06_NetRoom.j1 (k + 1) y0 y1 y2 y3 y4 y5 y6 y7 y8 y9 y10 y11 y12 y13 y14 y15 y16 y17 y18)) ∧ (∀ y0 y1 y2 y3 y4 y5 y6 y7 y8 y9 y10 y11 y12 y13 y14 y15 y16 y17 y18, LeO (chamberlainlaw06_NetRoom.j2 k y0 y1 y2 y3 y4 y5 y6 y7 y8 y9 y10 y11 y12 y13 y14 y15 y16 y17 y18) (chamberlainlaw06_NetRoom.j2 (k + 1) y0 y1 y2 y3 y4 y5 y6 y7 y8 y9 y10 y11 y12 y13 y14 y15 y16 y17 y18)) ∧ (∀ y0 y1 y2 y3 y4 y5 y6 y7 y8 y9, LeO (chamberlainlaw06_NetRoom.j3 k y0 y1 y2 y3 y4 y5 y6 y7 y8 y9) (chamberlainlaw06_NetRoom.j3 (k + 1) y0 y1 y2 y3 y4 y5 y6 y7 y8 y9))
  | 0 => ⟨fun _ _ _ _ _ _ _ r h => by simp [chamberlainlaw06_NetRoom.j0] at h, fun _ _ _ _ _ _ _ _ _ _ _ _ _ _ _ _ _ _ _ r h => by simp [chamberlainlaw06_NetRoom.j1] at h, fun _ _ _ _ _ _ _ _ _ _ _ _ _ _ _ _ _ _ _ r h => by simp [chamberlainlaw06_NetRoom.j2] at h, fun _ _ _ _ _ _ _ _ _ _ r h => by simp [chamberlainlaw06_NetRoom.j3] at h⟩
  | k + 1 => by
    obtain ⟨ih0, ih1, ih2, ih3⟩ := chamberlainlaw06_NetRoom.mono_l k
    refine ⟨?_, ?_, ?_, ?_⟩
    · intro y0 y1 y2 y3 y4 y5 y6
      unfold chamberlainlaw06_NetRoom.j0
      repeat' first
      | (with_reducible exact ih0 _ _ _ _ _ _ _)
      | (with_reducible exact ih1 _ _ _ _ _ _ _ _ _ _ _ _ _ _ _ _ _ _ _)
      | (with_reducible exact ih2 _ _ _ _ _ _ _ _ _ _ _ _ _ _ _ _ _ _ _)
      | (with_reducible exact ih3 _ _ _ _ _ _ _ _ _ _)
      | (with_reducible exact chamberlainlaw06_awake.mono _)
      | (with_reducible exact chamberlainref06_Few.mono _ _ _ _)
      | (with_reducible exact chamberlainref06_One.mono _ _ _ _ _)
      | (with_reducible exact chamberlainref06_Same.mono _ _ _ _ _ _ _)
      | (with_reducible exact LeO.refl _)
      | (with_reducible exact LeO.none _)
      | (with_reducible refine LeO.ite ?_ ?_)
      | (with_reducible refine LeO.bind ?_ (fun _ => ?_))
      | exact ih0 _ _ _ _ _ _ _
      | exact ih1 _ _ _ _ _ _ _ _ _ _ _ _ _ _ _ _ _ _ _
      | exact ih2 _ _ _ _ _ _ _ _ _ _ _ _ _ _ _ _ _ _ _
      | exact ih3 _ _ _ _ _ _ _ _ _ _
      | exact chamberlainlaw06_awake.mono _
      | exact chamberlainref06_Few.mono _ _ _ _
      | exact chamberlainref06_One.mono _ _ _ _ _
      | exact chamberlainref06_Same.mono _ _ _ _ _ _ _
      | exact LeO.none _
      | refine LeO.ite ?_ ?_
      | refine LeO.bind ?_ (fun _ => ?_)
    · intro y0 y1 y2 y3 y4 y5 y6 y7 y8 y9 y10 y11 y12 y13 y14 y15 y16 y17 y18
      unfold chamberlainlaw06_NetRoom.j1
      repeat' first
      | (with_reducible exact ih0 _ _ _ _ _ _ _)
      | (with_reducible exact ih1 _ _ _ _ _ _ _ _ _ _ _ _ _ _ _ _ _ _ _)
      | (with_reducible exact ih2 _ _ _ _ _ _ _ _ _ _ _ _ _ _ _ _ _ _ _)
      | (with_reducible exact ih3 _ _ _ _ _ _ _ _ _ _)
      | (with_reducible exact chamberlainlaw06_awake.mono _)
      | (with_reducible exact chamberlainref06_Few.mono _ _ _ _)
      | (with_reducible exact chamberlainref06_One.mono _ _ _ _ _)
      | (with_reducible exact chamberlainref06_Same.mono _ _ _ _ _ _ _)
      | (with_reducible exact LeO.refl _)
      | (with_reducible exact LeO.none _)
      | (with_reducible refine LeO.ite ?_ ?_)
      | (with_reducible refine LeO.bind ?_ (fun _ => ?_))
      | exact ih0 _ _ _ _ _ _ _
      | exact ih1 _ _ _ _ _ _ _ _ _ _ _ _ _ _ _ _ _ _ _
      | exact ih2 _ _ _ _ _ _ _ _ _ _ _ _ _ _ _ _ _ _ _
      | exact ih3 _ _ _ _ _ _ _ _ _ _
      | exact chamberlainlaw06_awake.mono _
      | exact chamberlainref06_Few.mono _ _ _ _
      | exact chamberlainref06_One.mono _ _ _ _ _
      | exact chamberlainref06_Same.mono _ _ _ _ _ _ _
      | exact LeO.none _
      | refine LeO.ite ?_ ?_
      | refine LeO.bind ?_ (fun _ => ?_)
    · intro y0 y1 y2 y3 y4 y5 y6 y7 y8 y9 y10 y11 y12 y13 y14 y15 y16 y17 y18
      unfold chamberlainlaw06_NetRoom.j2
      repeat' first
      | (with_reducible exact ih0 _ _ _ _ _ _ _)
      | (with_reducible exact ih1 _ _ _ _ _ _ _ _ _ _ _ _ _ _ _ _ _ _ _)
      | (with_reducible exact ih2 _ _ _ _ _ _ _ _ _ _ _ _ _ _ _ _ _ _ _)
      | (with_reducible exact ih3 _ _ _ _ _ _ _ _ _ _)
      | (with_reducible exact chamberlainlaw06_awake.mono _)
      | (with_reducible exact chamberlainref06_Few.mono _ _ _ _)
      | (with_reducible exact chamberlainref06_One.mono _ _ _ _ _)
      | (with_reducible exact chamberlainref06_Same.mono _ _ _ _ _ _ _)
      | (with_reducible exact LeO.refl _)
      | (with_reducible exact LeO.none _)
      | (with_reducible refine LeO.ite ?_ ?_)
      | (with_reducible refine LeO.bind ?_ (fun _ => ?_))
      | exact ih0 _ _ _ _ _ _ _
      | exact ih1 _ _ _ _ _ _ _ _ _ _ _ _ _ _ _ _ _ _ _
      | exact ih2 _ _ _ _ _ _ _ _ _ _ _ _ _ _ _ _ _ _ _
      | exact ih3 _ _ _ _ _ _ _ _ _ _
      | exact chamberlainlaw06_awake.mono _
      | exact chamberlainref06_Few.mono _ _ _ _
      | exact chamberlainref06_One.mono _ _ _ _ _
      | exact chamberlainref06_Same.mono _ _ _ _ _ _ _
      | exact LeO.none _
      | refine LeO.ite ?_ ?_
      | refine LeO.bind ?_ (fun _ => ?_)
    · intro y0 y1 y2 y3 y4 y5 y6 y7 y8 y9
      unfold chamberlainlaw06_NetRoom.j3
      repeat' first
      | (with_reducible exact ih0 _ _ _ _ _ _ _)
      | (with_reducible exact ih1 _ _ _ _ _ _ _ _ _ _ _ _ _ _ _ _ _ _ _)
      | (with_reducible exact ih2 _ _ _ _ _ _ _ _ _ _ _ _ _ _ _ _ _ _ _)
      | (with_reducible exact ih3 _ _ _ _ _ _ _ _ _ _)
      | (with_reducible exact chamberlainlaw06_awake.mono _)
      | (with_reducible exact chamberlainref06_Few.mono _ _ _ _)
      | (with_reducible exact chamberlainref06_One.mono _ _ _ _ _)
      | (with_reducible exact chamberlainref06_Same.mono _ _ _ _ _ _ _)
      | (with_reducible exact LeO.refl _)
      | (with_reducible exact LeO.none _)
      | (with_reducible refine LeO.ite ?_ ?_)
      | (with_reducible refine LeO.bind ?_ (fun _ => ?_))
      | exact ih0 _ _ _ _ _ _ _
      | exact ih1 _ _ _ _ _ _ _ _ _ _ _ _ _ _ _ _ _ _ _
      | exact ih2 _ _ _ _ _ _ _ _ _ _ _ _ _ _ _ _ _ _ _
      | exact ih3 _ _ _ _ _ _ _ _ _ _
      | exact chamberlainlaw06_awake.mono _
      | exact chamberlainref06_Few.mono _ _ _ _
      | exact chamberlainref06_One.mono _ _ _ _ _
      | exact chamberlainref06_Same.mono _ _ _ _ _ _ _
      | exact LeO.none _
      | refine LeO.ite ?_ ?_
      | refine LeO.bind ?_ (fun _ => ?_)
theorem chamberlainlaw06_NetRoom.mono : ∀ a0 a1 a2 a3 a4 a5 k, LeO (chamberlainlaw06_NetRoom.f k a0 a1 a2 a3 a4 a5) (chamberlainlaw06_NetRoom.f (k + 1) a0 a1 a2 a3 a4 a5) := by
  intro a0 a1 a2 a3 a4 a5 k
  obtain ⟨ih0, ih1, ih2, ih3⟩ := chamberlainlaw06_NetRoom.mono_l k
  unfold chamberlainlaw06_NetRoom.f
  repeat' first
      | (with_reducible exact ih0 _ _ _ _ _ _ _)
      | (with_reducible exact ih1 _ _ _ _ _ _ _ _ _ _ _ _ _ _ _ _ _ _ _)
      | (with_reducible exact ih2 _ _ _ _ _ _ _ _ _ _ _ _ _ _ _ _ _ _ _)
      | (with_reducible exact ih3 _ _ _ _ _ _ _ _ _ _)
      | (with_reducible exact chamberlainlaw06_awake.mono _)
      | (with_reducible exact chamberlainref06_Few.mono _ _ _ _)
      | (with_reducible exact chamberlainref06_One.mono _ _ _ _ _)
      | (with_reducible exact chamberlainref06_Same.mono _ _ _ _ _ _ _)
      | (with_reducible exact LeO.refl _)
      | (with_reducible exact LeO.none _)
      | (with_reducible refine LeO.ite ?_ ?_)
      | (with_reducible refine LeO.bind ?_ (fun _ => ?_))
      | exact ih0 _ _ _ _ _ _ _
      | exact ih1 _ _ _ _ _ _ _ _ _ _ _ _ _ _ _ _ _ _ _
      | exact ih2 _ _ _ _ _ _ _ _ _ _ _ _ _ _ _ _ _ _ _
      | exact ih3 _ _ _ _ _ _ _ _ _ _
      | exact chamberlainlaw06_awake.mono _
      | exact chamberlainref06_Few.mono _ _ _ _
      | exact chamberlainref06_One.mono _ _ _ _ _
      | exact chamberlainref06_Same.mono _ _ _ _ _ _ _
      | exact LeO.none _
      | refine LeO.ite ?_ ?_
      | refine LeO.bind ?_ (fun _ => ?_)
set_option maxHeartbeats 8000000 in
set_option maxRecDepth 100000 in
theorem chamberlainlaw06_NetRoom.calls (k : Nat) (a0_0 : Int) (A0_1 : Option Addr) (c0_1 : Nat) (l0_1 : List (S29)) (A0_2 : Option Addr) (c0_2 : Nat) (l0_2 : List (List Int)) (a1_0 : Int) (A1_1 : Option Addr) (c1_1 : Nat) (l1_1 : List Int) (a2 : Int) (r : Bool) (w : World) (hr0_1 : Kd.C k29 w A0_1 l0_1.length l0_1) (hc0_1 : l0_1.length ≤ c0_1) (hr0_2 : Kd.C (Kd.slice 26 (Kd.int .u32)) w A0_2 l0_2.length l0_2) (hc0_2 : l0_2.length ≤ c0_2) (hr1_1 : Kd.C (Kd.int .u32) w A1_1 l1_1.length l1_1) (hc1_1 : l1_1.length ≤ c1_1) (h : chamberlainlaw06_NetRoom.f k a0_0 l0_1 l0_2 a1_0 l1_1 a2 = some r) (hT0 : r = true) :
    Calls Try.prog 7 #[.agg #[.int .i64 a0_0, .slice A0_1 l0_1.length c0_1, .slice A0_2 l0_2.length c0_2], .agg #[.int .u32 a1_0, .slice A1_1 l1_1.length c1_1], .int .i64 a2] w fun e w' => e = .returned (.bool r) ∧ Below w.heap.size w w' := by
  have hT := Aside0.mk hT0
  clear hT0
  have hu25 := Try.underlying25
  have hu29 := Try.underlying29
  have HR0_1 := Aside0.mk hr0_1
  have HC0_1 := Aside0.mk hc0_1
  clear hr0_1 hc0_1
  have HR0_2 := Aside0.mk hr0_2
  have HC0_2 := Aside0.mk hc0_2
  clear hr0_2 hc0_2
  have HR1_1 := Aside0.mk hr1_1
  have HC1_1 := Aside0.mk hc1_1
  clear hr1_1 hc1_1
  have HB := Aside0.mk (Below.refl w.heap.size w)
  have H : ((chamberlainlaw06_awake.f k).bind fun t294 => (if t294 = true then ((chamberlainref06_Few.f k a0_0 l0_1 l0_2).bind fun t295 => (if t295 = true then ((chamberlainref06_Right.f a0_0 l0_1 l0_2).bind fun t296 => (if t296 = true then (chamberlainlaw06_NetRoom.j0 k a2 (decide ((l1_1.length : Int) > 100)) a0_0 l0_1 l0_2 a1_0 l1_1) else (chamberlainlaw06_NetRoom.j0 k a2 true a0_0 l0_1 l0_2 a1_0 l1_1))) else (chamberlainlaw06_NetRoom.j0 k a2 true a0_0 l0_1 l0_2 a1_0 l1_1))) else (chamberlainlaw06_NetRoom.j0 k a2 true a0_0 l0_1 l0_2 a1_0 l1_1))) = some r := h
  clear h
  have HC4 := Aside0.mk H
  clear H
  go_enter Try.func7, Try.ntmps7
  go_upto_region 1 with (first | ((with_reducible refine gate_dst (N := 3) rfl ?_); (try (refine gate_guard (by rfl) ?_; dsimp only)); refine box_event ?hg (N := 3) ?hd (cs := #[.int .i64 a0_0, .slice A0_1 l0_1.length c0_1, .slice A0_2 l0_2.length c0_2]) (t := 25) ?hr ?_; (case hd => rfl); (case hg => rfl); (case hr => first | (go_simp; done) | (go_simp; rfl)); intro gb292 hg w5 hbox hb; have n0_ := Aside0.mk (bs_ hb); have n1_ := Aside0.mk (hbox); have n2_ := Aside0.mk ((ge_ hg : w.heap.size ≤ gb292)); have n3_ := Aside0.mk ((ge_ hg : w.heap.size ≤ gb292)); clear HB; have HB := n0_; have BK292 := n1_; have GW292 := n2_; have GE292 := n3_; clear n0_ n1_ n2_ n3_; clear hb hbox hg) | ((with_reducible refine gate_dst (N := 4) rfl ?_); (try (refine gate_guard (by rfl) ?_; dsimp only)); refine box_event ?hg (N := 4) ?hd (cs := #[.int .u32 a1_0, .slice A1_1 l1_1.length c1_1]) (t := 29) ?hr ?_; (case hd => rfl); (case hg => rfl); (case hr => first | (go_simp; done) | (go_simp; rfl)); intro gb293 hg w6 hbox hb; have n0_ := Aside0.mk (bb_ BK292.out hb); have n1_ := Aside0.mk (bs_ hb); have n2_ := Aside0.mk (hbox); have n3_ := Aside0.mk ((ge_ hg : w.heap.size ≤ gb293)); have n4_ := Aside0.mk ((ge_ hg : w.heap.size ≤ gb293)); have n5_ := Aside0.mk ((by rw [hg]; exact Nat.ne_of_lt (blk_lt (g := gb292) (o := .cells #[.int .i64 a0_0, .slice A0_1 l0_1.length c0_1, .slice A0_2 l0_2.length c0_2] 25 (0, 0)) (by (with_reducible repeat (first | refine blk_drewN ?_ _ | refine blk_drew ?_ | refine blk_alloc ?_ _)); exact BK292.out)) : gb292 ≠ gb293)); have n6_ := Aside0.mk ((by rw [hg]; exact Nat.ne_of_gt (blk_lt (g := gb292) (o := .cells #[.int .i64 a0_0, .slice A0_1 l0_1.length c0_1, .slice A0_2 l0_2.length c0_2] 25 (0, 0)) (by (with_reducible repeat (first | refine blk_drewN ?_ _ | refine blk_drew ?_ | refine blk_alloc ?_ _)); exact BK292.out)) : gb293 ≠ gb292)); clear BK292 HB; have BK292 := n0_; have HB := n1_; have BK293 := n2_; have GW293 := n3_; have GE293 := n4_; have NB292_293 := n5_; have NB293_292 := n6_; clear n0_ n1_ n2_ n3_ n4_ n5_ n6_; clear hb hbox hg))
  (try simp only [Act.put, List.setIfInBounds_toArray, List.set_cons_zero, List.set_cons_succ])
  go_cut [36] (fun v36 wc => ∃ (kq : Nat) (x36_3 : Bool), v36 = .bool x36_3 ∧ Aside0 (chamberlainlaw06_NetRoom.j0 kq a2 x36_3 a0_0 l0_1 l0_2 a1_0 l1_1 = some r) ∧ Aside0 (kq ≤ k) ∧ Aside0 (wc.heap[gb292]? = some (.cells #[.int .i64 a0_0, (.slice A0_1 l0_1.length c0_1), (.slice A0_2 l0_2.length c0_2)] 25 (0, 0))) ∧ Aside0 (wc.heap[gb293]? = some (.cells #[.int .u32 a1_0, (.slice A1_1 l1_1.length c1_1)] 29 (0, 0))) ∧ Aside0 (Below w.heap.size w wc))
  case first =>
    have H := HC4.out
    clear HC4
    replace H := Option.bind_eq_some_iff.mp H
    obtain ⟨t294, A70, H⟩ := H
    replace H : (if t294 = true then ((chamberlainref06_Few.f k a0_0 l0_1 l0_2).bind fun t295 => (if t295 = true then ((chamberlainref06_Right.f a0_0 l0_1 l0_2).bind fun t296 => (if t296 = true then (chamberlainlaw06_NetRoom.j0 k a2 (decide ((l1_1.length : Int) > 100)) a0_0 l0_1 l0_2 a1_0 l1_1) else (chamberlainlaw06_NetRoom.j0 k a2 true a0_0 l0_1 l0_2 a1_0 l1_1))) else (chamberlainlaw06_NetRoom.j0 k a2 true a0_0 l0_1 l0_2 a1_0 l1_1))) else (chamberlainlaw06_NetRoom.j0 k a2 true a0_0 l0_1 l0_2 a1_0 l1_1)) = some r := H
    have A7 := Aside0.mk A70
    clear A70
    by_cases c8 : t294 = true
    · subst c8
      have H1 : ((chamberlainref06_Few.f k a0_0 l0_1 l0_2).bind fun t295 => (if t295 = true then ((chamberlainref06_Right.f a0_0 l0_1 l0_2).bind fun t296 => (if t296 = true then (chamberlainlaw06_NetRoom.j0 k a2 (decide ((l1_1.length : Int) > 100)) a0_0 l0_1 l0_2 a1_0 l1_1) else (chamberlainlaw06_NetRoom.j0 k a2 true a0_0 l0_1 l0_2 a1_0 l1_1))) else (chamberlainlaw06_NetRoom.j0 k a2 true a0_0 l0_1 l0_2 a1_0 l1_1))) = some r := by rw [if_pos rfl] at H; exact H
      clear H
      have H := H1
      clear H1
      replace H := Option.bind_eq_some_iff.mp H
      obtain ⟨t295, A90, H⟩ := H
      replace H : (if t295 = true then ((chamberlainref06_Right.f a0_0 l0_1 l0_2).bind fun t296 => (if t296 = true then (chamberlainlaw06_NetRoom.j0 k a2 (decide ((l1_1.length : Int) > 100)) a0_0 l0_1 l0_2 a1_0 l1_1) else (chamberlainlaw06_NetRoom.j0 k a2 true a0_0 l0_1 l0_2 a1_0 l1_1))) else (chamberlainlaw06_NetRoom.j0 k a2 true a0_0 l0_1 l0_2 a1_0 l1_1)) = some r := H
      have A9 := Aside0.mk A90
      clear A90
      by_cases c10 : t295 = true
      · subst c10
        have H1 : ((chamberlainref06_Right.f a0_0 l0_1 l0_2).bind fun t296 => (if t296 = true then (chamberlainlaw06_NetRoom.j0 k a2 (decide ((l1_1.length : Int) > 100)) a0_0 l0_1 l0_2 a1_0 l1_1) else (chamberlainlaw06_NetRoom.j0 k a2 true a0_0 l0_1 l0_2 a1_0 l1_1))) = some r := by rw [if_pos rfl] at H; exact H
        clear H
        have H := H1
        clear H1
        replace H := Option.bind_eq_some_iff.mp H
        obtain ⟨t296, A110, H⟩ := H
        replace H : (if t296 = true then (chamberlainlaw06_NetRoom.j0 k a2 (decide ((l1_1.length : Int) > 100)) a0_0 l0_1 l0_2 a1_0 l1_1) else (chamberlainlaw06_NetRoom.j0 k a2 true a0_0 l0_1 l0_2 a1_0 l1_1)) = some r := H
        have A11 := Aside0.mk A110
        clear A110
        by_cases c12 : t296 = true
        · subst c12
          have H1 : (chamberlainlaw06_NetRoom.j0 k a2 (decide ((l1_1.length : Int) > 100)) a0_0 l0_1 l0_2 a1_0 l1_1) = some r := by rw [if_pos rfl] at H; exact H
          clear H
          have H := H1
          clear H1
          have H' := Aside0.mk H
          clear H
          go_wp2_with (first | ((with_reducible refine gate_callee (f := 8) rfl ?_); refine goesL_ (some 19) rfl rfl Try.func8 (by kernel_rfl) rfl #[] rfl (by (try simp only [List.map_toArray, List.map_cons, List.map_nil]); first | done | rfl | (simp only [List.length_drop, List.length_take]; rfl)) ?_; (with_reducible refine (chamberlainlaw06_awake.calls k  true _ A7.out).mono ?_); rintro e w13 ⟨rfl, hb⟩; refine ⟨_, rfl, ?_⟩; have n0_ := Aside0.mk (bb_ BK292.out hb); have n1_ := Aside0.mk (bb_ BK293.out hb); have n2_ := Aside0.mk (bs_ hb); clear BK292 BK293 HB; have BK292 := n0_; have BK293 := n1_; have HB := n2_; clear n0_ n1_ n2_; (try clear hb); (try clear hb2); (try clear hk); (try clear hi); have hnb14 := NB292_293.out; have hnc14 := NB293_292.out; have ⟨hcz15_0, hcz15_1, hcz15_2⟩ := cz3_ BK292.out; have ⟨hfz15_0, hfz15_1, hfz15_2⟩ := fz3_ BK292.out) | (go_at_call 9; (with_reducible refine (chamberlainref06_Few.calls k a0_0 _ _ l0_1 _ _ l0_2 true _ ?side1 ?side2 ?side3 ?side4 A9.out).mono ?_); (case side1 => repeat (first | exact (Kd.C_below HR0_1.out HB.out) | (with_reducible refine Kd.C_alloc ?_ _) | (with_reducible refine Kd.C_drewN ?_ _) | (with_reducible refine Kd.C_drew ?_))); (case side2 => exact HC0_1.out); (case side3 => repeat (first | exact (Kd.C_below HR0_2.out HB.out) | (with_reducible refine Kd.C_alloc ?_ _) | (with_reducible refine Kd.C_drewN ?_ _) | (with_reducible refine Kd.C_drew ?_))); (case side4 => exact HC0_2.out); rintro e w16 ⟨rfl, hb⟩; have n0_ := Aside0.mk (bb_ BK292.out hb); have n1_ := Aside0.mk (bb_ BK293.out hb); have n2_ := Aside0.mk (bs_ hb); clear BK292 BK293 HB; have BK292 := n0_; have BK293 := n1_; have HB := n2_; clear n0_ n1_ n2_; (try clear hb); (try clear hb2); (try clear hk); (try clear hi); have ⟨hcz17_0, hcz17_1, hcz17_2⟩ := cz3_ BK292.out; have ⟨hfz17_0, hfz17_1, hfz17_2⟩ := fz3_ BK292.out) | (go_at_call 11; (with_reducible refine (chamberlainref06_Right.calls a0_0 _ _ l0_1 _ _ l0_2 true _ ?side1 ?side2 ?side3 ?side4 A11.out).mono ?_); (case side1 => repeat (first | exact (Kd.C_below HR0_1.out HB.out) | (with_reducible refine Kd.C_alloc ?_ _) | (with_reducible refine Kd.C_drewN ?_ _) | (with_reducible refine Kd.C_drew ?_))); (case side2 => exact HC0_1.out); (case side3 => repeat (first | exact (Kd.C_below HR0_2.out HB.out) | (with_reducible refine Kd.C_alloc ?_ _) | (with_reducible refine Kd.C_drewN ?_ _) | (with_reducible refine Kd.C_drew ?_))); (case side4 => exact HC0_2.out); rintro e w18 ⟨rfl, hb⟩; have n0_ := Aside0.mk (bb_ BK292.out hb); have n1_ := Aside0.mk (bb_ BK293.out hb); have n2_ := Aside0.mk (bs_ hb); clear BK292 BK293 HB; have BK292 := n0_; have BK293 := n1_; have HB := n2_; clear n0_ n1_ n2_; (try clear hb); (try clear hb2); (try clear hk); (try clear hi); have ⟨hcz19_0, hcz19_1⟩ := cz2_ BK293.out; have ⟨hfz19_0, hfz19_1⟩ := fz2_ BK293.out))
          go_meet
          case rel => exact ⟨_, (decide ((l1_1.length : Int) > 100)), (by first | rfl | (simp; done) | (simp [*]; done)), H', ⟨by first | omega | exact Nat.le_refl _⟩, ⟨by (with_reducible repeat (first | refine blk_drewN ?_ _ | refine blk_drew ?_ | refine blk_alloc ?_ _)); exact BK292.out⟩, ⟨by (with_reducible repeat (first | refine blk_drewN ?_ _ | refine blk_drew ?_ | refine blk_alloc ?_ _)); exact BK293.out⟩, ⟨by repeat (first | (with_reducible first | exact HB.out | apply below_alloc | apply pw_below_drewN | apply below_drew1 | refine below_set ?_ GE292.out | refine below_set ?_ GE293.out) | exact HB.out)⟩⟩
        · replace c12 := Bool.eq_false_iff.mpr c12
          subst c12
          have H1 : (chamberlainlaw06_NetRoom.j0 k a2 true a0_0 l0_1 l0_2 a1_0 l1_1) = some r := by rw [if_neg (show ¬ (false = true) by decide)] at H; exact H
          clear H
          have H := H1
          clear H1
          have H' := Aside0.mk H
          clear H
          go_wp2_with (first | ((with_reducible refine gate_callee (f := 8) rfl ?_); refine goesL_ (some 19) rfl rfl Try.func8 (by kernel_rfl) rfl #[] rfl (by (try simp only [List.map_toArray, List.map_cons, List.map_nil]); first | done | rfl | (simp only [List.length_drop, List.length_take]; rfl)) ?_; (with_reducible refine (chamberlainlaw06_awake.calls k  true _ A7.out).mono ?_); rintro e w20 ⟨rfl, hb⟩; refine ⟨_, rfl, ?_⟩; have n0_ := Aside0.mk (bb_ BK292.out hb); have n1_ := Aside0.mk (bb_ BK293.out hb); have n2_ := Aside0.mk (bs_ hb); clear BK292 BK293 HB; have BK292 := n0_; have BK293 := n1_; have HB := n2_; clear n0_ n1_ n2_; (try clear hb); (try clear hb2); (try clear hk); (try clear hi); have hnb21 := NB292_293.out; have hnc21 := NB293_292.out; have ⟨hcz22_0, hcz22_1, hcz22_2⟩ := cz3_ BK292.out; have ⟨hfz22_0, hfz22_1, hfz22_2⟩ := fz3_ BK292.out) | (go_at_call 9; (with_reducible refine (chamberlainref06_Few.calls k a0_0 _ _ l0_1 _ _ l0_2 true _ ?side1 ?side2 ?side3 ?side4 A9.out).mono ?_); (case side1 => repeat (first | exact (Kd.C_below HR0_1.out HB.out) | (with_reducible refine Kd.C_alloc ?_ _) | (with_reducible refine Kd.C_drewN ?_ _) | (with_reducible refine Kd.C_drew ?_))); (case side2 => exact HC0_1.out); (case side3 => repeat (first | exact (Kd.C_below HR0_2.out HB.out) | (with_reducible refine Kd.C_alloc ?_ _) | (with_reducible refine Kd.C_drewN ?_ _) | (with_reducible refine Kd.C_drew ?_))); (case side4 => exact HC0_2.out); rintro e w23 ⟨rfl, hb⟩; have n0_ := Aside0.mk (bb_ BK292.out hb); have n1_ := Aside0.mk (bb_ BK293.out hb); have n2_ := Aside0.mk (bs_ hb); clear BK292 BK293 HB; have BK292 := n0_; have BK293 := n1_; have HB := n2_; clear n0_ n1_ n2_; (try clear hb); (try clear hb2); (try clear hk); (try clear hi); have ⟨hcz24_0, hcz24_1, hcz24_2⟩ := cz3_ BK292.out; have ⟨hfz24_0, hfz24_1, hfz24_2⟩ := fz3_ BK292.out) | (go_at_call 11; (with_reducible refine (chamberlainref06_Right.calls a0_0 _ _ l0_1 _ _ l0_2 false _ ?side1 ?side2 ?side3 ?side4 A11.out).mono ?_); (case side1 => repeat (first | exact (Kd.C_below HR0_1.out HB.out) | (with_reducible refine Kd.C_alloc ?_ _) | (with_reducible refine Kd.C_drewN ?_ _) | (with_reducible refine Kd.C_drew ?_))); (case side2 => exact HC0_1.out); (case side3 => repeat (first | exact (Kd.C_below HR0_2.out HB.out) | (with_reducible refine Kd.C_alloc ?_ _) | (with_reducible refine Kd.C_drewN ?_ _) | (with_reducible refine Kd.C_drew ?_))); (case side4 => exact HC0_2.out); rintro e w25 ⟨rfl, hb⟩; have n0_ := Aside0.mk (bb_ BK292.out hb); have n1_ := Aside0.mk (bb_ BK293.out hb); have n2_ := Aside0.mk (bs_ hb); clear BK292 BK293 HB; have BK292 := n0_; have BK293 := n1_; have HB := n2_; clear n0_ n1_ n2_; (try clear hb); (try clear hb2); (try clear hk); (try clear hi)))
          go_meet
          case rel => exact ⟨_, (true), (by first | rfl | (simp; done) | (simp [*]; done)), H', ⟨by first | omega | exact Nat.le_refl _⟩, ⟨by (with_reducible repeat (first | refine blk_drewN ?_ _ | refine blk_drew ?_ | refine blk_alloc ?_ _)); exact BK292.out⟩, ⟨by (with_reducible repeat (first | refine blk_drewN ?_ _ | refine blk_drew ?_ | refine blk_alloc ?_ _)); exact BK293.out⟩, ⟨by repeat (first | (with_reducible first | exact HB.out | apply below_alloc | apply pw_below_drewN | apply below_drew1 | refine below_set ?_ GE292.out | refine below_set ?_ GE293.out) | exact HB.out)⟩⟩
      · replace c10 := Bool.eq_false_iff.mpr c10
        subst c10
        have H1 : (chamberlainlaw06_NetRoom.j0 k a2 true a0_0 l0_1 l0_2 a1_0 l1_1) = some r := by rw [if_neg (show ¬ (false = true) by decide)] at H; exact H
        clear H
        have H := H1
        clear H1
        have H' := Aside0.mk H
        clear H
        go_wp2_with (first | ((with_reducible refine gate_callee (f := 8) rfl ?_); refine goesL_ (some 19) rfl rfl Try.func8 (by kernel_rfl) rfl #[] rfl (by (try simp only [List.map_toArray, List.map_cons, List.map_nil]); first | done | rfl | (simp only [List.length_drop, List.length_take]; rfl)) ?_; (with_reducible refine (chamberlainlaw06_awake.calls k  true _ A7.out).mono ?_); rintro e w26 ⟨rfl, hb⟩; refine ⟨_, rfl, ?_⟩; have n0_ := Aside0.mk (bb_ BK292.out hb); have n1_ := Aside0.mk (bb_ BK293.out hb); have n2_ := Aside0.mk (bs_ hb); clear BK292 BK293 HB; have BK292 := n0_; have BK293 := n1_; have HB := n2_; clear n0_ n1_ n2_; (try clear hb); (try clear hb2); (try clear hk); (try clear hi); have hnb27 := NB292_293.out; have hnc27 := NB293_292.out; have ⟨hcz28_0, hcz28_1, hcz28_2⟩ := cz3_ BK292.out; have ⟨hfz28_0, hfz28_1, hfz28_2⟩ := fz3_ BK292.out) | (go_at_call 9; (with_reducible refine (chamberlainref06_Few.calls k a0_0 _ _ l0_1 _ _ l0_2 false _ ?side1 ?side2 ?side3 ?side4 A9.out).mono ?_); (case side1 => repeat (first | exact (Kd.C_below HR0_1.out HB.out) | (with_reducible refine Kd.C_alloc ?_ _) | (with_reducible refine Kd.C_drewN ?_ _) | (with_reducible refine Kd.C_drew ?_))); (case side2 => exact HC0_1.out); (case side3 => repeat (first | exact (Kd.C_below HR0_2.out HB.out) | (with_reducible refine Kd.C_alloc ?_ _) | (with_reducible refine Kd.C_drewN ?_ _) | (with_reducible refine Kd.C_drew ?_))); (case side4 => exact HC0_2.out); rintro e w29 ⟨rfl, hb⟩; have n0_ := Aside0.mk (bb_ BK292.out hb); have n1_ := Aside0.mk (bb_ BK293.out hb); have n2_ := Aside0.mk (bs_ hb); clear BK292 BK293 HB; have BK292 := n0_; have BK293 := n1_; have HB := n2_; clear n0_ n1_ n2_; (try clear hb); (try clear hb2); (try clear hk); (try clear hi)))
        go_meet
        case rel => exact ⟨_, (true), (by first | rfl | (simp; done) | (simp [*]; done)), H', ⟨by first | omega | exact Nat.le_refl _⟩, ⟨by (with_reducible repeat (first | refine blk_drewN ?_ _ | refine blk_drew ?_ | refine blk_alloc ?_ _)); exact BK292.out⟩, ⟨by (with_reducible repeat (first | refine blk_drewN ?_ _ | refine blk_drew ?_ | refine blk_alloc ?_ _)); exact BK293.out⟩, ⟨by repeat (first | (with_reducible first | exact HB.out | apply below_alloc | apply pw_below_drewN | apply below_drew1 | refine below_set ?_ GE292.out | refine below_set ?_ GE293.out) | exact HB.out)⟩⟩
    · replace c8 := Bool.eq_false_iff.mpr c8
      subst c8
      have H1 : (chamberlainlaw06_NetRoom.j0 k a2 true a0_0 l0_1 l0_2 a1_0 l1_1) = some r := by rw [if_neg (show ¬ (false = true) by decide)] at H; exact H
      clear H
      have H := H1
      clear H1
      have H' := Aside0.mk H
      clear H
      go_wp2_with (first | ((with_reducible refine gate_callee (f := 8) rfl ?_); refine goesL_ (some 19) rfl rfl Try.func8 (by kernel_rfl) rfl #[] rfl (by (try simp only [List.map_toArray, List.map_cons, List.map_nil]); first | done | rfl | (simp only [List.length_drop, List.length_take]; rfl)) ?_; (with_reducible refine (chamberlainlaw06_awake.calls k  false _ A7.out).mono ?_); rintro e w30 ⟨rfl, hb⟩; refine ⟨_, rfl, ?_⟩; have n0_ := Aside0.mk (bb_ BK292.out hb); have n1_ := Aside0.mk (bb_ BK293.out hb); have n2_ := Aside0.mk (bs_ hb); clear BK292 BK293 HB; have BK292 := n0_; have BK293 := n1_; have HB := n2_; clear n0_ n1_ n2_; (try clear hb); (try clear hb2); (try clear hk); (try clear hi)))
      go_meet
      case rel => exact ⟨_, (true), (by first | rfl | (simp; done) | (simp [*]; done)), H', ⟨by first | omega | exact Nat.le_refl _⟩, ⟨by (with_reducible repeat (first | refine blk_drewN ?_ _ | refine blk_drew ?_ | refine blk_alloc ?_ _)); exact BK292.out⟩, ⟨by (with_reducible repeat (first | refine blk_drewN ?_ _ | refine blk_drew ?_ | refine blk_alloc ?_ _)); exact BK293.out⟩, ⟨by repeat (first | (with_reducible first | exact HB.out | apply below_alloc | apply pw_below_drewN | apply below_drew1 | refine below_set ?_ GE292.out | refine below_set ?_ GE293.out) | exact HB.out)⟩⟩
  case rest =>
    clear HC4
    try clear c1
    try clear c2
    try clear p2
    try clear c7
    try clear c8
    try clear c10
    try clear c12
    try clear c14
    try clear c21
    try clear c27
    try clear hcz15_0
    try clear hcz15_1
    try clear hcz15_2
    try clear hcz17_0
    try clear hcz17_1
    try clear hcz17_2
    try clear hcz19_0
    try clear hcz19_1
    try clear hcz22_0
    try clear hcz22_1
    try clear hcz22_2
    try clear hcz24_0
    try clear hcz24_1
    try clear hcz24_2
    try clear hcz28_0
    try clear hcz28_1
    try clear hcz28_2
    try clear hfz15_0
    try clear hfz15_1
    try clear hfz15_2
    try clear hfz17_0
    try clear hfz17_1
    try clear hfz17_2
    try clear hfz19_0
    try clear hfz19_1
    try clear hfz22_0
    try clear hfz22_1
    try clear hfz22_2
    try clear hfz24_0
    try clear hfz24_1
    try clear hfz24_2
    try clear hfz28_0
    try clear hfz28_1
    try clear hfz28_2
    obtain ⟨kq, x36_3, rfl, HA, HJ3, BK292, BK293, HB⟩ := hcut
    cases kq with
    | zero => exact absurd HA.out (by simp [chamberlainlaw06_NetRoom.j0])
    | succ kj3 =>
      have H := HA.out
      clear HA
      simp only [chamberlainlaw06_NetRoom.j0] at H
      by_cases c31 : x36_3 = true
      · subst c31
        have H1 : ((chamberlainlaw06_awake.f kj3).bind fun t297 => (some t297)) = some r := by rw [if_pos rfl] at H; exact H
        clear H
        have H := H1
        clear H1
        replace H := Option.bind_eq_some_iff.mp H
        obtain ⟨t297, A320, H⟩ := H
        replace H : (some t297) = some r := H
        have A32 := Aside0.mk A320
        clear A320
        obtain rfl := Option.some.inj H
        go_wp2_with (first | ((with_reducible refine gate_callee (f := 8) rfl ?_); refine goesL_ (some 37) rfl rfl Try.func8 (by kernel_rfl) rfl #[] rfl (by (try simp only [List.map_toArray, List.map_cons, List.map_nil]); first | done | rfl | (simp only [List.length_drop, List.length_take]; rfl)) ?_; (with_reducible refine (chamberlainlaw06_awake.calls kj3  t297 _ A32.out).mono ?_); rintro e w33 ⟨rfl, hb⟩; refine ⟨_, rfl, ?_⟩; have n2_ := Aside0.mk (bs_ hb); clear BK292 BK293 HB; have HB := n2_; clear n2_; (try clear hb); (try clear hb2); (try clear hk); (try clear hi)))
        go_ret
        exact ⟨by first | rfl | (simp [errW_none, errW_some] <;> rfl) | (simp [*, errW_none, errW_some] <;> rfl), by repeat (first | (with_reducible first | exact HB.out | apply below_alloc | apply pw_below_drewN | apply below_drew1 | refine below_set ?_ GE292.out | refine below_set ?_ GE293.out) | exact HB.out)⟩
      · replace c31 := Bool.eq_false_iff.mpr c31
        subst c31
        have H1 : ((net_Free.f a0_0 l0_1 l0_2).bind fun t298 => ((net_Send.f a0_0 l0_1 l0_2 a1_0 l1_1).bind fun bt299 => ((net_Double.f a0_0 l0_1 l0_2 a2).bind fun bt308 => ((net_Take.f a0_0 l0_1 l0_2 a2).bind fun bt317 => (if a2 ≥ 0 then (chamberlainlaw06_NetRoom.j1 kj3 t298 bt299.2.2.2 bt308.2.2.2 bt317.2.2.2.2.2 (decide (a2 < (l0_1.length : Int))) a0_0 l0_1 l0_2 bt299.1 bt299.2.1 bt299.2.2.1 bt308.1 bt308.2.1 bt308.2.2.1 bt317.1 bt317.2.1 bt317.2.2.1 bt317.2.2.2.1 bt317.2.2.2.2.1) else (chamberlainlaw06_NetRoom.j1 kj3 t298 bt299.2.2.2 bt308.2.2.2 bt317.2.2.2.2.2 false a0_0 l0_1 l0_2 bt299.1 bt299.2.1 bt299.2.2.1 bt308.1 bt308.2.1 bt308.2.2.1 bt317.1 bt317.2.1 bt317.2.2.1 bt317.2.2.2.1 bt317.2.2.2.2.1)))))) = some r := by rw [if_neg (show ¬ (false = true) by decide)] at H; exact H
        clear H
        have H := H1
        clear H1
        replace H := Option.bind_eq_some_iff.mp H
        obtain ⟨t298, A340, H⟩ := H
        replace H : ((net_Send.f a0_0 l0_1 l0_2 a1_0 l1_1).bind fun bt299 => ((net_Double.f a0_0 l0_1 l0_2 a2).bind fun bt308 => ((net_Take.f a0_0 l0_1 l0_2 a2).bind fun bt317 => (if a2 ≥ 0 then (chamberlainlaw06_NetRoom.j1 kj3 t298 bt299.2.2.2 bt308.2.2.2 bt317.2.2.2.2.2 (decide (a2 < (l0_1.length : Int))) a0_0 l0_1 l0_2 bt299.1 bt299.2.1 bt299.2.2.1 bt308.1 bt308.2.1 bt308.2.2.1 bt317.1 bt317.2.1 bt317.2.2.1 bt317.2.2.2.1 bt317.2.2.2.2.1) else (chamberlainlaw06_NetRoom.j1 kj3 t298 bt299.2.2.2 bt308.2.2.2 bt317.2.2.2.2.2 false a0_0 l0_1 l0_2 bt299.1 bt299.2.1 bt299.2.2.1 bt308.1 bt308.2.1 bt308.2.2.1 bt317.1 bt317.2.1 bt317.2.2.1 bt317.2.2.2.1 bt317.2.2.2.2.1))))) = some r := H
        have A34 := Aside0.mk A340
        clear A340
        replace H := Option.bind_eq_some_iff.mp H
        obtain ⟨⟨t299, t300, t303, t306⟩, A350, H⟩ := H
        replace H : ((net_Double.f a0_0 l0_1 l0_2 a2).bind fun bt308 => ((net_Take.f a0_0 l0_1 l0_2 a2).bind fun bt317 => (if a2 ≥ 0 then (chamberlainlaw06_NetRoom.j1 kj3 t298 t306 bt308.2.2.2 bt317.2.2.2.2.2 (decide (a2 < (l0_1.length : Int))) a0_0 l0_1 l0_2 t299 t300 t303 bt308.1 bt308.2.1 bt308.2.2.1 bt317.1 bt317.2.1 bt317.2.2.1 bt317.2.2.2.1 bt317.2.2.2.2.1) else (chamberlainlaw06_NetRoom.j1 kj3 t298 t306 bt308.2.2.2 bt317.2.2.2.2.2 false a0_0 l0_1 l0_2 t299 t300 t303 bt308.1 bt308.2.1 bt308.2.2.1 bt317.1 bt317.2.1 bt317.2.2.1 bt317.2.2.2.1 bt317.2.2.2.2.1)))) = some r := H
        have A35 := Aside0.mk A350
        clear A350
        replace H := Option.bind_eq_some_iff.mp H
        obtain ⟨⟨t308, t309, t312, t315⟩, A360, H⟩ := H
        replace H : ((net_Take.f a0_0 l0_1 l0_2 a2).bind fun bt317 => (if a2 ≥ 0 then (chamberlainlaw06_NetRoom.j1 kj3 t298 t306 t315 bt317.2.2.2.2.2 (decide (a2 < (l0_1.length : Int))) a0_0 l0_1 l0_2 t299 t300 t303 t308 t309 t312 bt317.1 bt317.2.1 bt317.2.2.1 bt317.2.2.2.1 bt317.2.2.2.2.1) else (chamberlainlaw06_NetRoom.j1 kj3 t298 t306 t315 bt317.2.2.2.2.2 false a0_0 l0_1 l0_2 t299 t300 t303 t308 t309 t312 bt317.1 bt317.2.1 bt317.2.2.1 bt317.2.2.2.1 bt317.2.2.2.2.1))) = some r := H
        have A36 := Aside0.mk A360
        clear A360
        replace H := Option.bind_eq_some_iff.mp H
        obtain ⟨⟨t317, t318, t321, t324, t325, t328⟩, A370, H⟩ := H
        replace H : (if a2 ≥ 0 then (chamberlainlaw06_NetRoom.j1 kj3 t298 t306 t315 t328 (decide (a2 < (l0_1.length : Int))) a0_0 l0_1 l0_2 t299 t300 t303 t308 t309 t312 t317 t318 t321 t324 t325) else (chamberlainlaw06_NetRoom.j1 kj3 t298 t306 t315 t328 false a0_0 l0_1 l0_2 t299 t300 t303 t308 t309 t312 t317 t318 t321 t324 t325)) = some r := H
        have A37 := Aside0.mk A370
        clear A370
        have HC38 := Aside0.mk H
        clear H
        have hnb39 := NB292_293.out
        have hnc39 := NB293_292.out
        have ⟨hcz40_0, hcz40_1, hcz40_2⟩ := cz3_ BK292.out
        have ⟨hfz40_0, hfz40_1, hfz40_2⟩ := fz3_ BK292.out
        go_upto_region 7 with (first | ((with_reducible refine gate_callee (f := 20) rfl ?_); refine goesL_ (some 39) rfl rfl Try.func20 (by kernel_rfl) rfl #[.agg #[.int .i64 a0_0, .slice A0_1 l0_1.length c0_1, .slice A0_2 l0_2.length c0_2]] rfl (by (try simp only [List.map_toArray, List.map_cons, List.map_nil]); first | done | rfl | (simp only [List.length_drop, List.length_take]; rfl)) ?_; (with_reducible refine (net_Free.calls a0_0 _ _ l0_1 _ _ l0_2 t298 _ ?side1 ?side2 ?side3 ?side4 A34.out).mono ?_); (case side1 => repeat (first | exact (Kd.C_below HR0_1.out HB.out) | (with_reducible refine Kd.C_alloc ?_ _) | (with_reducible refine Kd.C_drewN ?_ _) | (with_reducible refine Kd.C_drew ?_))); (case side2 => exact HC0_1.out); (case side3 => repeat (first | exact (Kd.C_below HR0_2.out HB.out) | (with_reducible refine Kd.C_alloc ?_ _) | (with_reducible refine Kd.C_drewN ?_ _) | (with_reducible refine Kd.C_drew ?_))); (case side4 => exact HC0_2.out); rintro e w41 ⟨rfl, hb⟩; refine ⟨_, rfl, ?_⟩; have n0_ := Aside0.mk (bb_ BK292.out hb); have n1_ := Aside0.mk (bb_ BK293.out hb); have n2_ := Aside0.mk (bs_ hb); clear BK292 BK293 HB; have BK292 := n0_; have BK293 := n1_; have HB := n2_; clear n0_ n1_ n2_; (try clear hb); (try clear hb2); (try clear hk); (try clear hi); have ⟨hcz42_0, hcz42_1, hcz42_2⟩ := cz3_ BK292.out; have ⟨hfz42_0, hfz42_1, hfz42_2⟩ := fz3_ BK292.out; have ⟨hcz43_0, hcz43_1⟩ := cz2_ BK293.out; have ⟨hfz43_0, hfz43_1⟩ := fz2_ BK293.out) | ((with_reducible refine gate_callee (f := 12) rfl ?_); refine goesL_ (some 43) rfl rfl Try.func12 (by kernel_rfl) rfl #[.agg #[.int .i64 a0_0, .slice A0_1 l0_1.length c0_1, .slice A0_2 l0_2.length c0_2], .agg #[.int .u32 a1_0, .slice A1_1 l1_1.length c1_1]] rfl (by (try simp only [List.map_toArray, List.map_cons, List.map_nil]); first | done | rfl | (simp only [List.length_drop, List.length_take]; rfl)) ?_; (with_reducible refine (net_Send.calls a0_0 (fun k_ => k_ < w.heap.size) _ _ l0_1 (fun k_ => k_ < w.heap.size) _ _ l0_2 a1_0 (fun k_ => k_ < w.heap.size) _ _ l1_1 t299 t300 t303 t306 _ ?side1 ?side2 ?side3 A35.out).mono ?_); (case side1 => exact Kd.V_mk HC0_1.out (Kd.F_below (Kd.C_F k29_heap HR0_1.out) (by repeat (first | (with_reducible first | exact HB.out | apply below_alloc | apply pw_below_drewN | apply below_drew1 | refine below_set ?_ GE292.out | refine below_set ?_ GE293.out) | exact HB.out)))); (case side2 => exact Kd.V_mk HC0_2.out (Kd.F_below (Kd.C_F (Kd.heap_slice 26 (Kd.heap_int .u32)) HR0_2.out) (by repeat (first | (with_reducible first | exact HB.out | apply below_alloc | apply pw_below_drewN | apply below_drew1 | refine below_set ?_ GE292.out | refine below_set ?_ GE293.out) | exact HB.out)))); (case side3 => exact Kd.V_mk HC1_1.out (Kd.F_below (Kd.C_F (Kd.heap_int .u32) HR1_1.out) (by repeat (first | (with_reducible first | exact HB.out | apply below_alloc | apply pw_below_drewN | apply below_drew1 | refine below_set ?_ GE292.out | refine below_set ?_ GE293.out) | exact HB.out)))); rintro e w44 ⟨v301, v304, rfl, ho0, ho1, hb⟩; refine ⟨_, rfl, ?_⟩; have n0_ := Aside0.mk (Kd.V_lower (Kd.V_mono (ok' := fun k_ => k_ ≠ gb292 ∧ k_ ≠ gb293) ho0 (fun k_ hk_ => ⟨Or.elim hk_ (fun hs_ => Or.elim hs_ (fun hs_ => fun e_ => Nat.not_le.2 hs_ (by rw [e_]; exact GW292.out)) (fun hs_ => Or.elim hs_ (fun hs_ => fun e_ => Nat.not_le.2 hs_ (by rw [e_]; exact GW292.out)) (fun hs_ => fun e_ => Nat.not_le.2 hs_ (by rw [e_]; exact GW292.out)))) (fun hn_ => (fb_ BK292.out k_ hn_)), Or.elim hk_ (fun hs_ => Or.elim hs_ (fun hs_ => fun e_ => Nat.not_le.2 hs_ (by rw [e_]; exact GW293.out)) (fun hs_ => Or.elim hs_ (fun hs_ => fun e_ => Nat.not_le.2 hs_ (by rw [e_]; exact GW293.out)) (fun hs_ => fun e_ => Nat.not_le.2 hs_ (by rw [e_]; exact GW293.out)))) (fun hn_ => (fb_ BK293.out k_ hn_))⟩)) (below_size (by repeat (first | (with_reducible first | exact HB.out | apply below_alloc | apply pw_below_drewN | apply below_drew1 | refine below_set ?_ GE292.out | refine below_set ?_ GE293.out) | exact HB.out)))); have n1_ := Aside0.mk (Kd.V_lower (Kd.V_mono (ok' := fun k_ => k_ ≠ gb292 ∧ k_ ≠ gb293) ho1 (fun k_ hk_ => ⟨Or.elim hk_ (fun hs_ => Or.elim hs_ (fun hs_ => fun e_ => Nat.not_le.2 hs_ (by rw [e_]; exact GW292.out)) (fun hs_ => Or.elim hs_ (fun hs_ => fun e_ => Nat.not_le.2 hs_ (by rw [e_]; exact GW292.out)) (fun hs_ => fun e_ => Nat.not_le.2 hs_ (by rw [e_]; exact GW292.out)))) (fun hn_ => (fb_ BK292.out k_ hn_)), Or.elim hk_ (fun hs_ => Or.elim hs_ (fun hs_ => fun e_ => Nat.not_le.2 hs_ (by rw [e_]; exact GW293.out)) (fun hs_ => Or.elim hs_ (fun hs_ => fun e_ => Nat.not_le.2 hs_ (by rw [e_]; exact GW293.out)) (fun hs_ => fun e_ => Nat.not_le.2 hs_ (by rw [e_]; exact GW293.out)))) (fun hn_ => (fb_ BK293.out k_ hn_))⟩)) (below_size (by repeat (first | (with_reducible first | exact HB.out | apply below_alloc | apply pw_below_drewN | apply below_drew1 | refine below_set ?_ GE292.out | refine below_set ?_ GE293.out) | exact HB.out)))); have n2_ := Aside0.mk (bb_ BK292.out hb); have n3_ := Aside0.mk (bb_ BK293.out hb); have n4_ := Aside0.mk (bs_ hb); clear BK292 BK293 HB; have HO302 := n0_; have HO305 := n1_; have BK292 := n2_; have BK293 := n3_; have HB := n4_; clear n0_ n1_ n2_ n3_ n4_; (try clear hb); (try clear hb2); (try clear hk); (try clear hi); (try clear ho0); (try clear ho1)) | ((with_reducible refine gate_dst (N := 8) rfl ?_); (try (refine gate_guard (by rfl) ?_; dsimp only)); refine box_event ?hg (N := 8) ?hd (cs := #[.int .i64 0, .slice none 0 0, .slice none 0 0]) (t := 25) ?hr ?_; (case hd => rfl); (case hg => rfl); (case hr => first | (go_simp; done) | (go_simp; rfl)); intro gb307 hg w45 hbox hb; have n0_ := Aside0.mk (ve_ HO302.out gb307 hg hb); have n1_ := Aside0.mk (ve_ HO305.out gb307 hg hb); have n2_ := Aside0.mk (bb_ BK292.out hb); have n3_ := Aside0.mk (bb_ BK293.out hb); have n4_ := Aside0.mk (bs_ hb); have n5_ := Aside0.mk (hbox); have n6_ := Aside0.mk ((ge_ hg : w.heap.size ≤ gb307)); have n7_ := Aside0.mk ((ge_ hg : w.heap.size ≤ gb307)); have n8_ := Aside0.mk ((by rw [hg]; exact Nat.ne_of_lt (blk_lt (g := gb292) (o := .cells #[.int .i64 a0_0, .slice A0_1 l0_1.length c0_1, .slice A0_2 l0_2.length c0_2] 25 (0, 0)) (by (with_reducible repeat (first | refine blk_drewN ?_ _ | refine blk_drew ?_ | refine blk_alloc ?_ _)); exact BK292.out)) : gb292 ≠ gb307)); have n9_ := Aside0.mk ((by rw [hg]; exact Nat.ne_of_gt (blk_lt (g := gb292) (o := .cells #[.int .i64 a0_0, .slice A0_1 l0_1.length c0_1, .slice A0_2 l0_2.length c0_2] 25 (0, 0)) (by (with_reducible repeat (first | refine blk_drewN ?_ _ | refine blk_drew ?_ | refine blk_alloc ?_ _)); exact BK292.out)) : gb307 ≠ gb292)); have n10_ := Aside0.mk ((by rw [hg]; exact Nat.ne_of_lt (blk_lt (g := gb293) (o := .cells #[.int .u32 a1_0, .slice A1_1 l1_1.length c1_1] 29 (0, 0)) (by (with_reducible repeat (first | refine blk_drewN ?_ _ | refine blk_drew ?_ | refine blk_alloc ?_ _)); exact BK293.out)) : gb293 ≠ gb307)); have n11_ := Aside0.mk ((by rw [hg]; exact Nat.ne_of_gt (blk_lt (g := gb293) (o := .cells #[.int .u32 a1_0, .slice A1_1 l1_1.length c1_1] 29 (0, 0)) (by (with_reducible repeat (first | refine blk_drewN ?_ _ | refine blk_drew ?_ | refine blk_alloc ?_ _)); exact BK293.out)) : gb307 ≠ gb293)); clear HO302 HO305 BK292 BK293 HB; have HO302 := n0_; have HO305 := n1_; have BK292 := n2_; have BK293 := n3_; have HB := n4_; have BK307 := n5_; have GW307 := n6_; have GE307 := n7_; have NB292_307 := n8_; have NB307_292 := n9_; have NB293_307 := n10_; have NB307_293 := n11_; clear n0_ n1_ n2_ n3_ n4_ n5_ n6_ n7_ n8_ n9_ n10_ n11_; clear hb hbox hg; have hnb46 := NB307_292.out; have hnc46 := NB292_307.out; have hnb47 := NB307_293.out; have hnc47 := NB293_307.out; have ⟨hcz48_0, hcz48_1, hcz48_2⟩ := cz3_ BK307.out; have ⟨hfz48_0, hfz48_1, hfz48_2⟩ := fz3_ BK307.out; obtain ⟨Ao49, co49, eo49⟩ := Kd.V_slice HO302.out; subst eo49; obtain ⟨Ao50, co50, eo50⟩ := Kd.V_slice HO305.out; subst eo50) | ((with_reducible refine gate_store (t := 25) (p := 8) rfl ?_); refine store_event (t := 25) (p := 8) (v := ?vo_w51) (w1 := (((w45.setCell ⟨gb307, 0, none⟩ (.int .i64 t299)).setCell ⟨gb307, 1, none⟩ (.slice Ao49 t300.length co49)).setCell ⟨gb307, 2, none⟩ (.slice Ao50 t303.length co50))) ?hg ?ho ?hn ?hr ?_; (case ho => rfl); (case hg => rfl); (case hn => rfl); (case hr => first | (go_simp; done) | (go_simp; rfl)); intro w51 hw; have n0_ : Aside0 (Kd.V k29 29 w51 w.heap.size (fun k_ => k_ ≠ gb292 ∧ k_ ≠ gb293 ∧ k_ ≠ gb307) (.slice Ao49 t300.length co49) t300) := ⟨(by rw [hw]; exact (by (with_reducible repeat (first | apply Kd.V_alloc | apply Kd.V_drewN | apply Kd.V_drew)); exact Kd.V_mono (v3_ (g := gb307) (Kd.V_mono HO302.out (fun k_ hk => (⟨hk, hk.2⟩ : _ ∧ k_ ≠ gb307)))) (fun _ hk => ⟨hk.1.1.1, ⟨hk.1.1.2, hk.1.2⟩⟩)))⟩; have n1_ : Aside0 (Kd.V (Kd.slice 26 (Kd.int .u32)) 27 w51 w.heap.size (fun k_ => k_ ≠ gb292 ∧ k_ ≠ gb293 ∧ k_ ≠ gb307) (.slice Ao50 t303.length co50) t303) := ⟨(by rw [hw]; exact (by (with_reducible repeat (first | apply Kd.V_alloc | apply Kd.V_drewN | apply Kd.V_drew)); exact Kd.V_mono (v3_ (g := gb307) (Kd.V_mono HO305.out (fun k_ hk => (⟨hk, hk.2⟩ : _ ∧ k_ ≠ gb307)))) (fun _ hk => ⟨hk.1.1.1, ⟨hk.1.1.2, hk.1.2⟩⟩)))⟩; have n2_ : Aside0 (w51.heap[gb292]? = some (.cells #[.int .i64 a0_0, .slice A0_1 l0_1.length c0_1, .slice A0_2 l0_2.length c0_2] 25 (0, 0))) := ⟨(by rw [hw]; exact (bf3_ BK292.out NB292_307.out))⟩; have n3_ : Aside0 (w51.heap[gb293]? = some (.cells #[.int .u32 a1_0, .slice A1_1 l1_1.length c1_1] 29 (0, 0))) := ⟨(by rw [hw]; exact (bf3_ BK293.out NB293_307.out))⟩; have n4_ : Aside0 (w51.heap[gb307]? = some (.cells #[.int .i64 t299, .slice Ao49 t300.length co49, .slice Ao50 t303.length co50] 25 (0, 0))) := ⟨(by rw [hw]; exact (bp3_ BK307.out))⟩; have n5_ : Aside0 (Below w.heap.size w w51) := ⟨(by rw [hw]; exact (by repeat (first | (with_reducible first | exact HB.out | apply below_alloc | apply pw_below_drewN | apply below_drew1 | refine below_set ?_ GE292.out | refine below_set ?_ GE293.out | refine below_set ?_ GE307.out) | exact HB.out)))⟩; clear hw HO302 HO305 BK292 BK293 BK307 HB; have HO302 := n0_; have HO305 := n1_; have BK292 := n2_; have BK293 := n3_; have BK307 := n4_; have HB := n5_; clear n0_ n1_ n2_ n3_ n4_ n5_; have ⟨hcz52_0, hcz52_1, hcz52_2⟩ := cz3_ BK292.out; have ⟨hfz52_0, hfz52_1, hfz52_2⟩ := fz3_ BK292.out) | ((with_reducible refine gate_callee (f := 16) rfl ?_); refine goesL_ (some 49) rfl rfl Try.func16 (by kernel_rfl) rfl #[.agg #[.int .i64 a0_0, .slice A0_1 l0_1.length c0_1, .slice A0_2 l0_2.length c0_2], .int .i64 a2] rfl (by (try simp only [List.map_toArray, List.map_cons, List.map_nil]); first | done | rfl | (simp only [List.length_drop, List.length_take]; rfl)) ?_; (with_reducible refine (net_Double.calls a0_0 (fun k_ => k_ < w.heap.size) _ _ l0_1 (fun k_ => k_ < w.heap.size) _ _ l0_2 a2 t308 t309 t312 t315 _ ?side1 ?side2 A36.out).mono ?_); (case side1 => exact Kd.V_mk HC0_1.out (Kd.F_below (Kd.C_F k29_heap HR0_1.out) (by repeat (first | (with_reducible first | exact HB.out | apply below_alloc | apply pw_below_drewN | apply below_drew1 | refine below_set ?_ GE292.out | refine below_set ?_ GE293.out | refine below_set ?_ GE307.out) | exact HB.out)))); (case side2 => exact Kd.V_mk HC0_2.out (Kd.F_below (Kd.C_F (Kd.heap_slice 26 (Kd.heap_int .u32)) HR0_2.out) (by repeat (first | (with_reducible first | exact HB.out | apply below_alloc | apply pw_below_drewN | apply below_drew1 | refine below_set ?_ GE292.out | refine below_set ?_ GE293.out | refine below_set ?_ GE307.out) | exact HB.out)))); rintro e w53 ⟨v310, v313, rfl, ho0, ho1, hb⟩; refine ⟨_, rfl, ?_⟩; have n0_ := Aside0.mk (vb_ HO302.out hb); have n1_ := Aside0.mk (vb_ HO305.out hb); have n2_ := Aside0.mk (Kd.V_lower (Kd.V_mono (ok' := fun k_ => k_ ≠ gb292 ∧ k_ ≠ gb293 ∧ k_ ≠ gb307) ho0 (fun k_ hk_ => ⟨Or.elim hk_ (fun hs_ => Or.elim hs_ (fun hs_ => fun e_ => Nat.not_le.2 hs_ (by rw [e_]; exact GW292.out)) (fun hs_ => fun e_ => Nat.not_le.2 hs_ (by rw [e_]; exact GW292.out))) (fun hn_ => (fb_ BK292.out k_ hn_)), Or.elim hk_ (fun hs_ => Or.elim hs_ (fun hs_ => fun e_ => Nat.not_le.2 hs_ (by rw [e_]; exact GW293.out)) (fun hs_ => fun e_ => Nat.not_le.2 hs_ (by rw [e_]; exact GW293.out))) (fun hn_ => (fb_ BK293.out k_ hn_)), Or.elim hk_ (fun hs_ => Or.elim hs_ (fun hs_ => fun e_ => Nat.not_le.2 hs_ (by rw [e_]; exact GW307.out)) (fun hs_ => fun e_ => Nat.not_le.2 hs_ (by rw [e_]; exact GW307.out))) (fun hn_ => (fb_ BK307.out k_ hn_))⟩)) (below_size (by repeat (first | (with_reducible first | exact HB.out | apply below_alloc | apply pw_below_drewN | apply below_drew1 | refine below_set ?_ GE292.out | refine below_set ?_ GE293.out | refine below_set ?_ GE307.out) | exact HB.out)))); have n3_ := Aside0.mk (Kd.V_lower (Kd.V_mono (ok' := fun k_ => k_ ≠ gb292 ∧ k_ ≠ gb293 ∧ k_ ≠ gb307) ho1 (fun k_ hk_ => ⟨Or.elim hk_ (fun hs_ => Or.elim hs_ (fun hs_ => fun e_ => Nat.not_le.2 hs_ (by rw [e_]; exact GW292.out)) (fun hs_ => fun e_ => Nat.not_le.2 hs_ (by rw [e_]; exact GW292.out))) (fun hn_ => (fb_ BK292.out k_ hn_)), Or.elim hk_ (fun hs_ => Or.elim hs_ (fun hs_ => fun e_ => Nat.not_le.2 hs_ (by rw [e_]; exact GW293.out)) (fun hs_ => fun e_ => Nat.not_le.2 hs_ (by rw [e_]; exact GW293.out))) (fun hn_ => (fb_ BK293.out k_ hn_)), Or.elim hk_ (fun hs_ => Or.elim hs_ (fun hs_ => fun e_ => Nat.not_le.2 hs_ (by rw [e_]; exact GW307.out)) (fun hs_ => fun e_ => Nat.not_le.2 hs_ (by rw [e_]; exact GW307.out))) (fun hn_ => (fb_ BK307.out k_ hn_))⟩)) (below_size (by repeat (first | (with_reducible first | exact HB.out | apply below_alloc | apply pw_below_drewN | apply below_drew1 | refine below_set ?_ GE292.out | refine below_set ?_ GE293.out | refine below_set ?_ GE307.out) | exact HB.out)))); have n4_ := Aside0.mk (bb_ BK292.out hb); have n5_ := Aside0.mk (bb_ BK293.out hb); have n6_ := Aside0.mk (bb_ BK307.out hb); have n7_ := Aside0.mk (bs_ hb); clear HO302 HO305 BK292 BK293 BK307 HB; have HO302 := n0_; have HO305 := n1_; have HO311 := n2_; have HO314 := n3_; have BK292 := n4_; have BK293 := n5_; have BK307 := n6_; have HB := n7_; clear n0_ n1_ n2_ n3_ n4_ n5_ n6_ n7_; (try clear hb); (try clear hb2); (try clear hk); (try clear hi); (try clear ho0); (try clear ho1)) | ((with_reducible refine gate_dst (N := 10) rfl ?_); (try (refine gate_guard (by rfl) ?_; dsimp only)); refine box_event ?hg (N := 10) ?hd (cs := #[.int .i64 0, .slice none 0 0, .slice none 0 0]) (t := 25) ?hr ?_; (case hd => rfl); (case hg => rfl); (case hr => first | (go_simp; done) | (go_simp; rfl)); intro gb316 hg w54 hbox hb; have n0_ := Aside0.mk (ve_ HO302.out gb316 hg hb); have n1_ := Aside0.mk (ve_ HO305.out gb316 hg hb); have n2_ := Aside0.mk (ve_ HO311.out gb316 hg hb); have n3_ := Aside0.mk (ve_ HO314.out gb316 hg hb); have n4_ := Aside0.mk (bb_ BK292.out hb); have n5_ := Aside0.mk (bb_ BK293.out hb); have n6_ := Aside0.mk (bb_ BK307.out hb); have n7_ := Aside0.mk (bs_ hb); have n8_ := Aside0.mk (hbox); have n9_ := Aside0.mk ((ge_ hg : w.heap.size ≤ gb316)); have n10_ := Aside0.mk ((ge_ hg : w.heap.size ≤ gb316)); have n11_ := Aside0.mk ((by rw [hg]; exact Nat.ne_of_lt (blk_lt (g := gb292) (o := .cells #[.int .i64 a0_0, .slice A0_1 l0_1.length c0_1, .slice A0_2 l0_2.length c0_2] 25 (0, 0)) (by (with_reducible repeat (first | refine blk_drewN ?_ _ | refine blk_drew ?_ | refine blk_alloc ?_ _)); exact BK292.out)) : gb292 ≠ gb316)); have n12_ := Aside0.mk ((by rw [hg]; exact Nat.ne_of_gt (blk_lt (g := gb292) (o := .cells #[.int .i64 a0_0, .slice A0_1 l0_1.length c0_1, .slice A0_2 l0_2.length c0_2] 25 (0, 0)) (by (with_reducible repeat (first | refine blk_drewN ?_ _ | refine blk_drew ?_ | refine blk_alloc ?_ _)); exact BK292.out)) : gb316 ≠ gb292)); have n13_ := Aside0.mk ((by rw [hg]; exact Nat.ne_of_lt (blk_lt (g := gb293) (o := .cells #[.int .u32 a1_0, .slice A1_1 l1_1.length c1_1] 29 (0, 0)) (by (with_reducible repeat (first | refine blk_drewN ?_ _ | refine blk_drew ?_ | refine blk_alloc ?_ _)); exact BK293.out)) : gb293 ≠ gb316)); have n14_ := Aside0.mk ((by rw [hg]; exact Nat.ne_of_gt (blk_lt (g := gb293) (o := .cells #[.int .u32 a1_0, .slice A1_1 l1_1.length c1_1] 29 (0, 0)) (by (with_reducible repeat (first | refine blk_drewN ?_ _ | refine blk_drew ?_ | refine blk_alloc ?_ _)); exact BK293.out)) : gb316 ≠ gb293)); have n15_ := Aside0.mk ((by rw [hg]; exact Nat.ne_of_lt (blk_lt (g := gb307) (o := .cells #[.int .i64 t299, .slice Ao49 t300.length co49, .slice Ao50 t303.length co50] 25 (0, 0)) (by (with_reducible repeat (first | refine blk_drewN ?_ _ | refine blk_drew ?_ | refine blk_alloc ?_ _)); exact BK307.out)) : gb307 ≠ gb316)); have n16_ := Aside0.mk ((by rw [hg]; exact Nat.ne_of_gt (blk_lt (g := gb307) (o := .cells #[.int .i64 t299, .slice Ao49 t300.length co49, .slice Ao50 t303.length co50] 25 (0, 0)) (by (with_reducible repeat (first | refine blk_drewN ?_ _ | refine blk_drew ?_ | refine blk_alloc ?_ _)); exact BK307.out)) : gb316 ≠ gb307)); clear HO302 HO305 HO311 HO314 BK292 BK293 BK307 HB; have HO302 := n0_; have HO305 := n1_; have HO311 := n2_; have HO314 := n3_; have BK292 := n4_; have BK293 := n5_; have BK307 := n6_; have HB := n7_; have BK316 := n8_; have GW316 := n9_; have GE316 := n10_; have NB292_316 := n11_; have NB316_292 := n12_; have NB293_316 := n13_; have NB316_293 := n14_; have NB307_316 := n15_; have NB316_307 := n16_; clear n0_ n1_ n2_ n3_ n4_ n5_ n6_ n7_ n8_ n9_ n10_ n11_ n12_ n13_ n14_ n15_ n16_; clear hb hbox hg; have hnb55 := NB316_292.out; have hnc55 := NB292_316.out; have hnb56 := NB316_293.out; have hnc56 := NB293_316.out; have hnb57 := NB316_307.out; have hnc57 := NB307_316.out; have ⟨hcz58_0, hcz58_1, hcz58_2⟩ := cz3_ BK316.out; have ⟨hfz58_0, hfz58_1, hfz58_2⟩ := fz3_ BK316.out; obtain ⟨Ao59, co59, eo59⟩ := Kd.V_slice HO311.out; subst eo59; obtain ⟨Ao60, co60, eo60⟩ := Kd.V_slice HO314.out; subst eo60) | ((with_reducible refine gate_store (t := 25) (p := 10) rfl ?_); refine store_event (t := 25) (p := 10) (v := ?vo_w61) (w1 := (((w54.setCell ⟨gb316, 0, none⟩ (.int .i64 t308)).setCell ⟨gb316, 1, none⟩ (.slice Ao59 t309.length co59)).setCell ⟨gb316, 2, none⟩ (.slice Ao60 t312.length co60))) ?hg ?ho ?hn ?hr ?_; (case ho => rfl); (case hg => rfl); (case hn => rfl); (case hr => first | (go_simp; done) | (go_simp; rfl)); intro w61 hw; have n0_ : Aside0 (Kd.V k29 29 w61 w.heap.size (fun k_ => k_ ≠ gb292 ∧ k_ ≠ gb293 ∧ k_ ≠ gb307 ∧ k_ ≠ gb316) (.slice Ao49 t300.length co49) t300) := ⟨(by rw [hw]; exact (by (with_reducible repeat (first | apply Kd.V_alloc | apply Kd.V_drewN | apply Kd.V_drew)); exact Kd.V_mono (v3_ (g := gb316) (Kd.V_mono HO302.out (fun k_ hk => (⟨hk, hk.2⟩ : _ ∧ k_ ≠ gb316)))) (fun _ hk => ⟨hk.1.1.1, ⟨hk.1.1.2.1, ⟨hk.1.1.2.2, hk.1.2⟩⟩⟩)))⟩; have n1_ : Aside0 (Kd.V (Kd.slice 26 (Kd.int .u32)) 27 w61 w.heap.size (fun k_ => k_ ≠ gb292 ∧ k_ ≠ gb293 ∧ k_ ≠ gb307 ∧ k_ ≠ gb316) (.slice Ao50 t303.length co50) t303) := ⟨(by rw [hw]; exact (by (with_reducible repeat (first | apply Kd.V_alloc | apply Kd.V_drewN | apply Kd.V_drew)); exact Kd.V_mono (v3_ (g := gb316) (Kd.V_mono HO305.out (fun k_ hk => (⟨hk, hk.2⟩ : _ ∧ k_ ≠ gb316)))) (fun _ hk => ⟨hk.1.1.1, ⟨hk.1.1.2.1, ⟨hk.1.1.2.2, hk.1.2⟩⟩⟩)))⟩; have n2_ : Aside0 (Kd.V k29 29 w61 w.heap.size (fun k_ => k_ ≠ gb292 ∧ k_ ≠ gb293 ∧ k_ ≠ gb307 ∧ k_ ≠ gb316) (.slice Ao59 t309.length co59) t309) := ⟨(by rw [hw]; exact (by (with_reducible repeat (first | apply Kd.V_alloc | apply Kd.V_drewN | apply Kd.V_drew)); exact Kd.V_mono (v3_ (g := gb316) (Kd.V_mono HO311.out (fun k_ hk => (⟨hk, hk.2⟩ : _ ∧ k_ ≠ gb316)))) (fun _ hk => ⟨hk.1.1.1, ⟨hk.1.1.2.1, ⟨hk.1.1.2.2, hk.1.2⟩⟩⟩)))⟩; have n3_ : Aside0 (Kd.V (Kd.slice 26 (Kd.int .u32)) 27 w61 w.heap.size (fun k_ => k_ ≠ gb292 ∧ k_ ≠ gb293 ∧ k_ ≠ gb307 ∧ k_ ≠ gb316) (.slice Ao60 t312.length co60) t312) := ⟨(by rw [hw]; exact (by (with_reducible repeat (first | apply Kd.V_alloc | apply Kd.V_drewN | apply Kd.V_drew)); exact Kd.V_mono (v3_ (g := gb316) (Kd.V_mono HO314.out (fun k_ hk => (⟨hk, hk.2⟩ : _ ∧ k_ ≠ gb316)))) (fun _ hk => ⟨hk.1.1.1, ⟨hk.1.1.2.1, ⟨hk.1.1.2.2, hk.1.2⟩⟩⟩)))⟩; have n4_ : Aside0 (w61.heap[gb292]? = some (.cells #[.int .i64 a0_0, .slice A0_1 l0_1.length c0_1, .slice A0_2 l0_2.length c0_2] 25 (0, 0))) := ⟨(by rw [hw]; exact (bf3_ BK292.out NB292_316.out))⟩; have n5_ : Aside0 (w61.heap[gb293]? = some (.cells #[.int .u32 a1_0, .slice A1_1 l1_1.length c1_1] 29 (0, 0))) := ⟨(by rw [hw]; exact (bf3_ BK293.out NB293_316.out))⟩; have n6_ : Aside0 (w61.heap[gb307]? = some (.cells #[.int .i64 t299, .slice Ao49 t300.length co49, .slice Ao50 t303.length co50] 25 (0, 0))) := ⟨(by rw [hw]; exact (bf3_ BK307.out NB307_316.out))⟩; have n7_ : Aside0 (w61.heap[gb316]? = some (.cells #[.int .i64 t308, .slice Ao59 t309.length co59, .slice Ao60 t312.length co60] 25 (0, 0))) := ⟨(by rw [hw]; exact (bp3_ BK316.out))⟩; have n8_ : Aside0 (Below w.heap.size w w61) := ⟨(by rw [hw]; exact (by repeat (first | (with_reducible first | exact HB.out | apply below_alloc | apply pw_below_drewN | apply below_drew1 | refine below_set ?_ GE292.out | refine below_set ?_ GE293.out | refine below_set ?_ GE307.out | refine below_set ?_ GE316.out) | exact HB.out)))⟩; clear hw HO302 HO305 HO311 HO314 BK292 BK293 BK307 BK316 HB; have HO302 := n0_; have HO305 := n1_; have HO311 := n2_; have HO314 := n3_; have BK292 := n4_; have BK293 := n5_; have BK307 := n6_; have BK316 := n7_; have HB := n8_; clear n0_ n1_ n2_ n3_ n4_ n5_ n6_ n7_ n8_; have ⟨hcz62_0, hcz62_1, hcz62_2⟩ := cz3_ BK292.out; have ⟨hfz62_0, hfz62_1, hfz62_2⟩ := fz3_ BK292.out) | ((with_reducible refine gate_callee (f := 14) rfl ?_); refine goesL_ (some 55) rfl rfl Try.func14 (by kernel_rfl) rfl #[.agg #[.int .i64 a0_0, .slice A0_1 l0_1.length c0_1, .slice A0_2 l0_2.length c0_2], .int .i64 a2] rfl (by (try simp only [List.map_toArray, List.map_cons, List.map_nil]); first | done | rfl | (simp only [List.length_drop, List.length_take]; rfl)) ?_; (with_reducible refine (net_Take.calls a0_0 (fun k_ => k_ < w.heap.size) _ _ l0_1 (fun k_ => k_ < w.heap.size) _ _ l0_2 a2 t317 t318 t321 t324 t325 t328 _ ?side1 ?side2 A37.out).mono ?_); (case side1 => exact Kd.V_mk HC0_1.out (Kd.F_below (Kd.C_F k29_heap HR0_1.out) (by repeat (first | (with_reducible first | exact HB.out | apply below_alloc | apply pw_below_drewN | apply below_drew1 | refine below_set ?_ GE292.out | refine below_set ?_ GE293.out | refine below_set ?_ GE307.out | refine below_set ?_ GE316.out) | exact HB.out)))); (case side2 => exact Kd.V_mk HC0_2.out (Kd.F_below (Kd.C_F (Kd.heap_slice 26 (Kd.heap_int .u32)) HR0_2.out) (by repeat (first | (with_reducible first | exact HB.out | apply below_alloc | apply pw_below_drewN | apply below_drew1 | refine below_set ?_ GE292.out | refine below_set ?_ GE293.out | refine below_set ?_ GE307.out | refine below_set ?_ GE316.out) | exact HB.out)))); rintro e w63 ⟨v319, v322, v326, rfl, ho0, ho1, ho2, hb⟩; refine ⟨_, rfl, ?_⟩; have n0_ := Aside0.mk (vb_ HO302.out hb); have n1_ := Aside0.mk (vb_ HO305.out hb); have n2_ := Aside0.mk (vb_ HO311.out hb); have n3_ := Aside0.mk (vb_ HO314.out hb); have n4_ := Aside0.mk (Kd.V_lower (Kd.V_mono (ok' := fun k_ => k_ ≠ gb292 ∧ k_ ≠ gb293 ∧ k_ ≠ gb307 ∧ k_ ≠ gb316) ho0 (fun k_ hk_ => ⟨Or.elim hk_ (fun hs_ => Or.elim hs_ (fun hs_ => fun e_ => Nat.not_le.2 hs_ (by rw [e_]; exact GW292.out)) (fun hs_ => fun e_ => Nat.not_le.2 hs_ (by rw [e_]; exact GW292.out))) (fun hn_ => (fb_ BK292.out k_ hn_)), Or.elim hk_ (fun hs_ => Or.elim hs_ (fun hs_ => fun e_ => Nat.not_le.2 hs_ (by rw [e_]; exact GW293.out)) (fun hs_ => fun e_ => Nat.not_le.2 hs_ (by rw [e_]; exact GW293.out))) (fun hn_ => (fb_ BK293.out k_ hn_)), Or.elim hk_ (fun hs_ => Or.elim hs_ (fun hs_ => fun e_ => Nat.not_le.2 hs_ (by rw [e_]; exact GW307.out)) (fun hs_ => fun e_ => Nat.not_le.2 hs_ (by rw [e_]; exact GW307.out))) (fun hn_ => (fb_ BK307.out k_ hn_)), Or.elim hk_ (fun hs_ => Or.elim hs_ (fun hs_ => fun e_ => Nat.not_le.2 hs_ (by rw [e_]; exact GW316.out)) (fun hs_ => fun e_ => Nat.not_le.2 hs_ (by rw [e_]; exact GW316.out))) (fun hn_ => (fb_ BK316.out k_ hn_))⟩)) (below_size (by repeat (first | (with_reducible first | exact HB.out | apply below_alloc | apply pw_below_drewN | apply below_drew1 | refine below_set ?_ GE292.out | refine below_set ?_ GE293.out | refine below_set ?_ GE307.out | refine below_set ?_ GE316.out) | exact HB.out)))); have n5_ := Aside0.mk (Kd.V_lower (Kd.V_mono (ok' := fun k_ => k_ ≠ gb292 ∧ k_ ≠ gb293 ∧ k_ ≠ gb307 ∧ k_ ≠ gb316) ho1 (fun k_ hk_ => ⟨Or.elim hk_ (fun hs_ => Or.elim hs_ (fun hs_ => fun e_ => Nat.not_le.2 hs_ (by rw [e_]; exact GW292.out)) (fun hs_ => fun e_ => Nat.not_le.2 hs_ (by rw [e_]; exact GW292.out))) (fun hn_ => (fb_ BK292.out k_ hn_)), Or.elim hk_ (fun hs_ => Or.elim hs_ (fun hs_ => fun e_ => Nat.not_le.2 hs_ (by rw [e_]; exact GW293.out)) (fun hs_ => fun e_ => Nat.not_le.2 hs_ (by rw [e_]; exact GW293.out))) (fun hn_ => (fb_ BK293.out k_ hn_)), Or.elim hk_ (fun hs_ => Or.elim hs_ (fun hs_ => fun e_ => Nat.not_le.2 hs_ (by rw [e_]; exact GW307.out)) (fun hs_ => fun e_ => Nat.not_le.2 hs_ (by rw [e_]; exact GW307.out))) (fun hn_ => (fb_ BK307.out k_ hn_)), Or.elim hk_ (fun hs_ => Or.elim hs_ (fun hs_ => fun e_ => Nat.not_le.2 hs_ (by rw [e_]; exact GW316.out)) (fun hs_ => fun e_ => Nat.not_le.2 hs_ (by rw [e_]; exact GW316.out))) (fun hn_ => (fb_ BK316.out k_ hn_))⟩)) (below_size (by repeat (first | (with_reducible first | exact HB.out | apply below_alloc | apply pw_below_drewN | apply below_drew1 | refine below_set ?_ GE292.out | refine below_set ?_ GE293.out | refine below_set ?_ GE307.out | refine below_set ?_ GE316.out) | exact HB.out)))); have n6_ := Aside0.mk (Kd.V_lower (Kd.V_mono (ok' := fun k_ => k_ ≠ gb292 ∧ k_ ≠ gb293 ∧ k_ ≠ gb307 ∧ k_ ≠ gb316) ho2 (fun k_ hk_ => ⟨Or.elim hk_ (fun hs_ => Or.elim hs_ (fun hs_ => fun e_ => Nat.not_le.2 hs_ (by rw [e_]; exact GW292.out)) (fun hs_ => fun e_ => Nat.not_le.2 hs_ (by rw [e_]; exact GW292.out))) (fun hn_ => (fb_ BK292.out k_ hn_)), Or.elim hk_ (fun hs_ => Or.elim hs_ (fun hs_ => fun e_ => Nat.not_le.2 hs_ (by rw [e_]; exact GW293.out)) (fun hs_ => fun e_ => Nat.not_le.2 hs_ (by rw [e_]; exact GW293.out))) (fun hn_ => (fb_ BK293.out k_ hn_)), Or.elim hk_ (fun hs_ => Or.elim hs_ (fun hs_ => fun e_ => Nat.not_le.2 hs_ (by rw [e_]; exact GW307.out)) (fun hs_ => fun e_ => Nat.not_le.2 hs_ (by rw [e_]; exact GW307.out))) (fun hn_ => (fb_ BK307.out k_ hn_)), Or.elim hk_ (fun hs_ => Or.elim hs_ (fun hs_ => fun e_ => Nat.not_le.2 hs_ (by rw [e_]; exact GW316.out)) (fun hs_ => fun e_ => Nat.not_le.2 hs_ (by rw [e_]; exact GW316.out))) (fun hn_ => (fb_ BK316.out k_ hn_))⟩)) (below_size (by repeat (first | (with_reducible first | exact HB.out | apply below_alloc | apply pw_below_drewN | apply below_drew1 | refine below_set ?_ GE292.out | refine below_set ?_ GE293.out | refine below_set ?_ GE307.out | refine below_set ?_ GE316.out) | exact HB.out)))); have n7_ := Aside0.mk (bb_ BK292.out hb); have n8_ := Aside0.mk (bb_ BK293.out hb); have n9_ := Aside0.mk (bb_ BK307.out hb); have n10_ := Aside0.mk (bb_ BK316.out hb); have n11_ := Aside0.mk (bs_ hb); clear HO302 HO305 HO311 HO314 BK292 BK293 BK307 BK316 HB; have HO302 := n0_; have HO305 := n1_; have HO311 := n2_; have HO314 := n3_; have HO320 := n4_; have HO323 := n5_; have HO327 := n6_; have BK292 := n7_; have BK293 := n8_; have BK307 := n9_; have BK316 := n10_; have HB := n11_; clear n0_ n1_ n2_ n3_ n4_ n5_ n6_ n7_ n8_ n9_ n10_ n11_; (try clear hb); (try clear hb2); (try clear hk); (try clear hi); (try clear ho0); (try clear ho1); (try clear ho2)) | ((with_reducible refine gate_dst (N := 12) rfl ?_); (try (refine gate_guard (by rfl) ?_; dsimp only)); refine box_event ?hg (N := 12) ?hd (cs := #[.int .i64 0, .slice none 0 0, .slice none 0 0]) (t := 25) ?hr ?_; (case hd => rfl); (case hg => rfl); (case hr => first | (go_simp; done) | (go_simp; rfl)); intro gb329 hg w64 hbox hb; have n0_ := Aside0.mk (ve_ HO302.out gb329 hg hb); have n1_ := Aside0.mk (ve_ HO305.out gb329 hg hb); have n2_ := Aside0.mk (ve_ HO311.out gb329 hg hb); have n3_ := Aside0.mk (ve_ HO314.out gb329 hg hb); have n4_ := Aside0.mk (ve_ HO320.out gb329 hg hb); have n5_ := Aside0.mk (ve_ HO323.out gb329 hg hb); have n6_ := Aside0.mk (ve_ HO327.out gb329 hg hb); have n7_ := Aside0.mk (bb_ BK292.out hb); have n8_ := Aside0.mk (bb_ BK293.out hb); have n9_ := Aside0.mk (bb_ BK307.out hb); have n10_ := Aside0.mk (bb_ BK316.out hb); have n11_ := Aside0.mk (bs_ hb); have n12_ := Aside0.mk (hbox); have n14_ := Aside0.mk ((ge_ hg : w.heap.size ≤ gb329)); have n15_ := Aside0.mk ((by rw [hg]; exact Nat.ne_of_lt (blk_lt (g := gb292) (o := .cells #[.int .i64 a0_0, .slice A0_1 l0_1.length c0_1, .slice A0_2 l0_2.length c0_2] 25 (0, 0)) (by (with_reducible repeat (first | refine blk_drewN ?_ _ | refine blk_drew ?_ | refine blk_alloc ?_ _)); exact BK292.out)) : gb292 ≠ gb329)); have n16_ := Aside0.mk ((by rw [hg]; exact Nat.ne_of_gt (blk_lt (g := gb292) (o := .cells #[.int .i64 a0_0, .slice A0_1 l0_1.length c0_1, .slice A0_2 l0_2.length c0_2] 25 (0, 0)) (by (with_reducible repeat (first | refine blk_drewN ?_ _ | refine blk_drew ?_ | refine blk_alloc ?_ _)); exact BK292.out)) : gb329 ≠ gb292)); have n17_ := Aside0.mk ((by rw [hg]; exact Nat.ne_of_lt (blk_lt (g := gb293) (o := .cells #[.int .u32 a1_0, .slice A1_1 l1_1.length c1_1] 29 (0, 0)) (by (with_reducible repeat (first | refine blk_drewN ?_ _ | refine blk_drew ?_ | refine blk_alloc ?_ _)); exact BK293.out)) : gb293 ≠ gb329)); have n18_ := Aside0.mk ((by rw [hg]; exact Nat.ne_of_gt (blk_lt (g := gb293) (o := .cells #[.int .u32 a1_0, .slice A1_1 l1_1.length c1_1] 29 (0, 0)) (by (with_reducible repeat (first | refine blk_drewN ?_ _ | refine blk_drew ?_ | refine blk_alloc ?_ _)); exact BK293.out)) : gb329 ≠ gb293)); have n19_ := Aside0.mk ((by rw [hg]; exact Nat.ne_of_lt (blk_lt (g := gb307) (o := .cells #[.int .i64 t299, .slice Ao49 t300.length co49, .slice Ao50 t303.length co50] 25 (0, 0)) (by (with_reducible repeat (first | refine blk_drewN ?_ _ | refine blk_drew ?_ | refine blk_alloc ?_ _)); exact BK307.out)) : gb307 ≠ gb329)); have n20_ := Aside0.mk ((by rw [hg]; exact Nat.ne_of_gt (blk_lt (g := gb307) (o := .cells #[.int .i64 t299, .slice Ao49 t300.length co49, .slice Ao50 t303.length co50] 25 (0, 0)) (by (with_reducible repeat (first | refine blk_drewN ?_ _ | refine blk_drew ?_ | refine blk_alloc ?_ _)); exact BK307.out)) : gb329 ≠ gb307)); have n21_ := Aside0.mk ((by rw [hg]; exact Nat.ne_of_lt (blk_lt (g := gb316) (o := .cells #[.int .i64 t308, .slice Ao59 t309.length co59, .slice Ao60 t312.length co60] 25 (0, 0)) (by (with_reducible repeat (first | refine blk_drewN ?_ _ | refine blk_drew ?_ | refine blk_alloc ?_ _)); exact BK316.out)) : gb316 ≠ gb329)); have n22_ := Aside0.mk ((by rw [hg]; exact Nat.ne_of_gt (blk_lt (g := gb316) (o := .cells #[.int .i64 t308, .slice Ao59 t309.length co59, .slice Ao60 t312.length co60] 25 (0, 0)) (by (with_reducible repeat (first | refine blk_drewN ?_ _ | refine blk_drew ?_ | refine blk_alloc ?_ _)); exact BK316.out)) : gb329 ≠ gb316)); clear HO302 HO305 HO311 HO314 HO320 HO323 HO327 BK292 BK293 BK307 BK316 HB; have HO302 := n0_; have HO305 := n1_; have HO311 := n2_; have HO314 := n3_; have HO320 := n4_; have HO323 := n5_; have HO327 := n6_; have BK292 := n7_; have BK293 := n8_; have BK307 := n9_; have BK316 := n10_; have HB := n11_; have BK329 := n12_; have GE329 := n14_; have NB292_329 := n15_; have NB329_292 := n16_; have NB293_329 := n17_; have NB329_293 := n18_; have NB307_329 := n19_; have NB329_307 := n20_; have NB316_329 := n21_; have NB329_316 := n22_; clear n0_ n1_ n2_ n3_ n4_ n5_ n6_ n7_ n8_ n9_ n10_ n11_ n12_ n14_ n15_ n16_ n17_ n18_ n19_ n20_ n21_ n22_; clear hb hbox hg) | ((with_reducible refine gate_dst (N := 13) rfl ?_); (try (refine gate_guard (by rfl) ?_; dsimp only)); refine box_event ?hg (N := 13) ?hd (cs := #[.int .u32 0, .slice none 0 0]) (t := 29) ?hr ?_; (case hd => rfl); (case hg => rfl); (case hr => first | (go_simp; done) | (go_simp; rfl)); intro gb330 hg w65 hbox hb; have n0_ := Aside0.mk (ve_ HO302.out gb330 hg hb); have n1_ := Aside0.mk (ve_ HO305.out gb330 hg hb); have n2_ := Aside0.mk (ve_ HO311.out gb330 hg hb); have n3_ := Aside0.mk (ve_ HO314.out gb330 hg hb); have n4_ := Aside0.mk (ve_ HO320.out gb330 hg hb); have n5_ := Aside0.mk (ve_ HO323.out gb330 hg hb); have n6_ := Aside0.mk (ve_ HO327.out gb330 hg hb); have n7_ := Aside0.mk (bb_ BK292.out hb); have n8_ := Aside0.mk (bb_ BK293.out hb); have n9_ := Aside0.mk (bb_ BK307.out hb); have n10_ := Aside0.mk (bb_ BK316.out hb); have n11_ := Aside0.mk (bb_ BK329.out hb); have n12_ := Aside0.mk (bs_ hb); have n13_ := Aside0.mk (hbox); have n15_ := Aside0.mk ((ge_ hg : w.heap.size ≤ gb330)); have n16_ := Aside0.mk ((by rw [hg]; exact Nat.ne_of_lt (blk_lt (g := gb292) (o := .cells #[.int .i64 a0_0, .slice A0_1 l0_1.length c0_1, .slice A0_2 l0_2.length c0_2] 25 (0, 0)) (by (with_reducible repeat (first | refine blk_drewN ?_ _ | refine blk_drew ?_ | refine blk_alloc ?_ _)); exact BK292.out)) : gb292 ≠ gb330)); have n17_ := Aside0.mk ((by rw [hg]; exact Nat.ne_of_gt (blk_lt (g := gb292) (o := .cells #[.int .i64 a0_0, .slice A0_1 l0_1.length c0_1, .slice A0_2 l0_2.length c0_2] 25 (0, 0)) (by (with_reducible repeat (first | refine blk_drewN ?_ _ | refine blk_drew ?_ | refine blk_alloc ?_ _)); exact BK292.out)) : gb330 ≠ gb292)); have n18_ := Aside0.mk ((by rw [hg]; exact Nat.ne_of_lt (blk_lt (g := gb293) (o := .cells #[.int .u32 a1_0, .slice A1_1 l1_1.length c1_1] 29 (0, 0)) (by (with_reducible repeat (first | refine blk_drewN ?_ _ | refine blk_drew ?_ | refine blk_alloc ?_ _)); exact BK293.out)) : gb293 ≠ gb330)); have n19_ := Aside0.mk ((by rw [hg]; exact Nat.ne_of_gt (blk_lt (g := gb293) (o := .cells #[.int .u32 a1_0, .slice A1_1 l1_1.length c1_1] 29 (0, 0)) (by (with_reducible repeat (first | refine blk_drewN ?_ _ | refine blk_drew ?_ | refine blk_alloc ?_ _)); exact BK293.out)) : gb330 ≠ gb293)); have n20_ := Aside0.mk ((by rw [hg]; exact Nat.ne_of_lt (blk_lt (g := gb307) (o := .cells #[.int .i64 t299, .slice Ao49 t300.length co49, .slice Ao50 t303.length co50] 25 (0, 0)) (by (with_reducible repeat (first | refine blk_drewN ?_ _ | refine blk_drew ?_ | refine blk_alloc ?_ _)); exact BK307.out)) : gb307 ≠ gb330)); have n21_ := Aside0.mk ((by rw [hg]; exact Nat.ne_of_gt (blk_lt (g := gb307) (o := .cells #[.int .i64 t299, .slice Ao49 t300.length co49, .slice Ao50 t303.length co50] 25 (0, 0)) (by (with_reducible repeat (first | refine blk_drewN ?_ _ | refine blk_drew ?_ | refine blk_alloc ?_ _)); exact BK307.out)) : gb330 ≠ gb307)); have n22_ := Aside0.mk ((by rw [hg]; exact Nat.ne_of_lt (blk_lt (g := gb316) (o := .cells #[.int .i64 t308, .slice Ao59 t309.length co59, .slice Ao60 t312.length co60] 25 (0, 0)) (by (with_reducible repeat (first | refine blk_drewN ?_ _ | refine blk_drew ?_ | refine blk_alloc ?_ _)); exact BK316.out)) : gb316 ≠ gb330)); have n23_ := Aside0.mk ((by rw [hg]; exact Nat.ne_of_gt (blk_lt (g := gb316) (o := .cells #[.int .i64 t308, .slice Ao59 t309.length co59, .slice Ao60 t312.length co60] 25 (0, 0)) (by (with_reducible repeat (first | refine blk_drewN ?_ _ | refine blk_drew ?_ | refine blk_alloc ?_ _)); exact BK316.out)) : gb330 ≠ gb316)); have n24_ := Aside0.mk ((by rw [hg]; exact Nat.ne_of_lt (blk_lt (g := gb329) (o := .cells #[.int .i64 0, .slice none 0 0, .slice none 0 0] 25 (0, 0)) (by (with_reducible repeat (first | refine blk_drewN ?_ _ | refine blk_drew ?_ | refine blk_alloc ?_ _)); exact BK329.out)) : gb329 ≠ gb330)); have n25_ := Aside0.mk ((by rw [hg]; exact Nat.ne_of_gt (blk_lt (g := gb329) (o := .cells #[.int .i64 0, .slice none 0 0, .slice none 0 0] 25 (0, 0)) (by (with_reducible repeat (first | refine blk_drewN ?_ _ | refine blk_drew ?_ | refine blk_alloc ?_ _)); exact BK329.out)) : gb330 ≠ gb329)); clear HO302 HO305 HO311 HO314 HO320 HO323 HO327 BK292 BK293 BK307 BK316 BK329 HB; have HO302 := n0_; have HO305 := n1_; have HO311 := n2_; have HO314 := n3_; have HO320 := n4_; have HO323 := n5_; have HO327 := n6_; have BK292 := n7_; have BK293 := n8_; have BK307 := n9_; have BK316 := n10_; have BK329 := n11_; have HB := n12_; have BK330 := n13_; have GE330 := n15_; have NB292_330 := n16_; have NB330_292 := n17_; have NB293_330 := n18_; have NB330_293 := n19_; have NB307_330 := n20_; have NB330_307 := n21_; have NB316_330 := n22_; have NB330_316 := n23_; have NB329_330 := n24_; have NB330_329 := n25_; clear n0_ n1_ n2_ n3_ n4_ n5_ n6_ n7_ n8_ n9_ n10_ n11_ n12_ n13_ n15_ n16_ n17_ n18_ n19_ n20_ n21_ n22_ n23_ n24_ n25_; clear hb hbox hg; have hnb66 := NB329_292.out; have hnc66 := NB292_329.out; have hnb67 := NB329_293.out; have hnc67 := NB293_329.out; have hnb68 := NB329_307.out; have hnc68 := NB307_329.out; have hnb69 := NB329_316.out; have hnc69 := NB316_329.out; have hnb70 := NB329_330.out; have hnc70 := NB330_329.out; have ⟨hcz71_0, hcz71_1, hcz71_2⟩ := cz3_ BK329.out; have ⟨hfz71_0, hfz71_1, hfz71_2⟩ := fz3_ BK329.out; obtain ⟨Ao72, co72, eo72⟩ := Kd.V_slice HO320.out; subst eo72; obtain ⟨Ao73, co73, eo73⟩ := Kd.V_slice HO323.out; subst eo73; have hnb74 := NB330_292.out; have hnc74 := NB292_330.out; have hnb75 := NB330_293.out; have hnc75 := NB293_330.out; have hnb76 := NB330_307.out; have hnc76 := NB307_330.out; have hnb77 := NB330_316.out; have hnc77 := NB316_330.out; have ⟨hcz78_0, hcz78_1⟩ := cz2_ BK330.out; have ⟨hfz78_0, hfz78_1⟩ := fz2_ BK330.out; obtain ⟨Ao79, co79, eo79⟩ := Kd.V_slice HO327.out; subst eo79))
        (try simp only [Act.put, List.setIfInBounds_toArray, List.set_cons_zero, List.set_cons_succ])
        go_cut [15] (fun v15 wc => ∃ (kq : Nat) (x15_37 : Bool), v15 = .bool x15_37 ∧ Aside0 (chamberlainlaw06_NetRoom.j1 kq t298 t306 t315 t328 x15_37 a0_0 l0_1 l0_2 t299 t300 t303 t308 t309 t312 t317 t318 t321 t324 t325 = some r) ∧ Aside0 (kq ≤ kj3) ∧ Aside0 (Kd.V k29 29 wc w.heap.size (fun k_ => k_ ≠ gb292 ∧ k_ ≠ gb293 ∧ k_ ≠ gb307 ∧ k_ ≠ gb316 ∧ k_ ≠ gb329 ∧ k_ ≠ gb330) (.slice Ao49 t300.length co49) t300) ∧ Aside0 (Kd.V (Kd.slice 26 (Kd.int .u32)) 27 wc w.heap.size (fun k_ => k_ ≠ gb292 ∧ k_ ≠ gb293 ∧ k_ ≠ gb307 ∧ k_ ≠ gb316 ∧ k_ ≠ gb329 ∧ k_ ≠ gb330) (.slice Ao50 t303.length co50) t303) ∧ Aside0 (Kd.V k29 29 wc w.heap.size (fun k_ => k_ ≠ gb292 ∧ k_ ≠ gb293 ∧ k_ ≠ gb307 ∧ k_ ≠ gb316 ∧ k_ ≠ gb329 ∧ k_ ≠ gb330) (.slice Ao59 t309.length co59) t309) ∧ Aside0 (Kd.V (Kd.slice 26 (Kd.int .u32)) 27 wc w.heap.size (fun k_ => k_ ≠ gb292 ∧ k_ ≠ gb293 ∧ k_ ≠ gb307 ∧ k_ ≠ gb316 ∧ k_ ≠ gb329 ∧ k_ ≠ gb330) (.slice Ao60 t312.length co60) t312) ∧ Aside0 (Kd.V k29 29 wc w.heap.size (fun k_ => k_ ≠ gb292 ∧ k_ ≠ gb293 ∧ k_ ≠ gb307 ∧ k_ ≠ gb316 ∧ k_ ≠ gb329 ∧ k_ ≠ gb330) (.slice Ao72 t318.length co72) t318) ∧ Aside0 (Kd.V (Kd.slice 26 (Kd.int .u32)) 27 wc w.heap.size (fun k_ => k_ ≠ gb292 ∧ k_ ≠ gb293 ∧ k_ ≠ gb307 ∧ k_ ≠ gb316 ∧ k_ ≠ gb329 ∧ k_ ≠ gb330) (.slice Ao73 t321.length co73) t321) ∧ Aside0 (Kd.V (Kd.int .u32) 26 wc w.heap.size (fun k_ => k_ ≠ gb292 ∧ k_ ≠ gb293 ∧ k_ ≠ gb307 ∧ k_ ≠ gb316 ∧ k_ ≠ gb329 ∧ k_ ≠ gb330) (.slice Ao79 t325.length co79) t325) ∧ Aside0 (wc.heap[gb292]? = some (.cells #[.int .i64 a0_0, (.slice A0_1 l0_1.length c0_1), (.slice A0_2 l0_2.length c0_2)] 25 (0, 0))) ∧ Aside0 (wc.heap[gb293]? = some (.cells #[.int .u32 a1_0, (.slice A1_1 l1_1.length c1_1)] 29 (0, 0))) ∧ Aside0 (wc.heap[gb307]? = some (.cells #[.int .i64 t299, (.slice Ao49 t300.length co49), (.slice Ao50 t303.length co50)] 25 (0, 0))) ∧ Aside0 (wc.heap[gb316]? = some (.cells #[.int .i64 t308, (.slice Ao59 t309.length co59), (.slice Ao60 t312.length co60)] 25 (0, 0))) ∧ Aside0 (wc.heap[gb329]? = some (.cells #[.int .i64 t317, (.slice Ao72 t318.length co72), (.slice Ao73 t321.length co73)] 25 (0, 0))) ∧ Aside0 (wc.heap[gb330]? = some (.cells #[.int .u32 t324, (.slice Ao79 t325.length co79)] 29 (0, 0))) ∧ Aside0 (Below w.heap.size w wc))
        case first =>
          have H := HC38.out
          clear HC38
          by_cases c80 : a2 ≥ 0
          · rw [if_pos c80] at H
            have c80b0 : decide (0 ≤ a2) = true := decide_eq_true c80
            clear c80
            (first | rw [c80b0] | (simp only [i64_w, i32_w]; rw [c80b0]) | skip)
            have H' := Aside0.mk H
            clear H
            have hnb81 := NB292_293.out
            have hnc81 := NB293_292.out
            have hnb82 := NB292_307.out
            have hnc82 := NB307_292.out
            have hnb83 := NB292_316.out
            have hnc83 := NB316_292.out
            have hnb84 := NB292_329.out
            have hnc84 := NB329_292.out
            have hnb85 := NB292_330.out
            have hnc85 := NB330_292.out
            have ⟨hcz86_0, hcz86_1, hcz86_2⟩ := cz3_ BK292.out
            have ⟨hfz86_0, hfz86_1, hfz86_2⟩ := fz3_ BK292.out
            go_wp2
            go_meet
            case rel => exact ⟨_, (decide (a2 < (l0_1.length : Int))), (by first | rfl | (simp; done) | (simp [*]; done)), H', ⟨by have := HJ3.out; first | omega | exact Nat.le_refl _⟩, ⟨by (with_reducible repeat (first | apply Kd.V_alloc | apply Kd.V_drewN | apply Kd.V_drew)); exact Kd.V_mono (v2_ (g := gb330) (Kd.V_far (p := ⟨gb329, 2, none⟩) (Kd.V_far (p := ⟨gb329, 1, none⟩) (Kd.V_far (p := ⟨gb329, 0, none⟩) (Kd.V_mono (Kd.V_mono HO302.out (fun k_ hk => (⟨hk, hk.1.2⟩ : _ ∧ k_ ≠ gb329))) (fun k_ hk => (⟨hk, hk.1.2⟩ : _ ∧ k_ ≠ gb330))) (fun _ hk => hk.1.2) (.int .i64 t317)) (fun _ hk => hk.1.2) (.slice Ao72 t318.length co72)) (fun _ hk => hk.1.2) (.slice Ao73 t321.length co73))) (fun _ hk => ⟨hk.1.1.1.1.1, ⟨hk.1.1.1.1.2.1, ⟨hk.1.1.1.1.2.2.1, ⟨hk.1.1.1.1.2.2.2, ⟨hk.1.1.1.2, hk.1.1.2⟩⟩⟩⟩⟩)⟩, ⟨by (with_reducible repeat (first | apply Kd.V_alloc | apply Kd.V_drewN | apply Kd.V_drew)); exact Kd.V_mono (v2_ (g := gb330) (Kd.V_far (p := ⟨gb329, 2, none⟩) (Kd.V_far (p := ⟨gb329, 1, none⟩) (Kd.V_far (p := ⟨gb329, 0, none⟩) (Kd.V_mono (Kd.V_mono HO305.out (fun k_ hk => (⟨hk, hk.1.2⟩ : _ ∧ k_ ≠ gb329))) (fun k_ hk => (⟨hk, hk.1.2⟩ : _ ∧ k_ ≠ gb330))) (fun _ hk => hk.1.2) (.int .i64 t317)) (fun _ hk => hk.1.2) (.slice Ao72 t318.length co72)) (fun _ hk => hk.1.2) (.slice Ao73 t321.length co73))) (fun _ hk => ⟨hk.1.1.1.1.1, ⟨hk.1.1.1.1.2.1, ⟨hk.1.1.1.1.2.2.1, ⟨hk.1.1.1.1.2.2.2, ⟨hk.1.1.1.2, hk.1.1.2⟩⟩⟩⟩⟩)⟩, ⟨by (with_reducible repeat (first | apply Kd.V_alloc | apply Kd.V_drewN | apply Kd.V_drew)); exact Kd.V_mono (v2_ (g := gb330) (Kd.V_far (p := ⟨gb329, 2, none⟩) (Kd.V_far (p := ⟨gb329, 1, none⟩) (Kd.V_far (p := ⟨gb329, 0, none⟩) (Kd.V_mono (Kd.V_mono HO311.out (fun k_ hk => (⟨hk, hk.1.2⟩ : _ ∧ k_ ≠ gb329))) (fun k_ hk => (⟨hk, hk.1.2⟩ : _ ∧ k_ ≠ gb330))) (fun _ hk => hk.1.2) (.int .i64 t317)) (fun _ hk => hk.1.2) (.slice Ao72 t318.length co72)) (fun _ hk => hk.1.2) (.slice Ao73 t321.length co73))) (fun _ hk => ⟨hk.1.1.1.1.1, ⟨hk.1.1.1.1.2.1, ⟨hk.1.1.1.1.2.2.1, ⟨hk.1.1.1.1.2.2.2, ⟨hk.1.1.1.2, hk.1.1.2⟩⟩⟩⟩⟩)⟩, ⟨by (with_reducible repeat (first | apply Kd.V_alloc | apply Kd.V_drewN | apply Kd.V_drew)); exact Kd.V_mono (v2_ (g := gb330) (Kd.V_far (p := ⟨gb329, 2, none⟩) (Kd.V_far (p := ⟨gb329, 1, none⟩) (Kd.V_far (p := ⟨gb329, 0, none⟩) (Kd.V_mono (Kd.V_mono HO314.out (fun k_ hk => (⟨hk, hk.1.2⟩ : _ ∧ k_ ≠ gb329))) (fun k_ hk => (⟨hk, hk.1.2⟩ : _ ∧ k_ ≠ gb330))) (fun _ hk => hk.1.2) (.int .i64 t317)) (fun _ hk => hk.1.2) (.slice Ao72 t318.length co72)) (fun _ hk => hk.1.2) (.slice Ao73 t321.length co73))) (fun _ hk => ⟨hk.1.1.1.1.1, ⟨hk.1.1.1.1.2.1, ⟨hk.1.1.1.1.2.2.1, ⟨hk.1.1.1.1.2.2.2, ⟨hk.1.1.1.2, hk.1.1.2⟩⟩⟩⟩⟩)⟩, ⟨by (with_reducible repeat (first | apply Kd.V_alloc | apply Kd.V_drewN | apply Kd.V_drew)); exact Kd.V_mono (v2_ (g := gb330) (Kd.V_far (p := ⟨gb329, 2, none⟩) (Kd.V_far (p := ⟨gb329, 1, none⟩) (Kd.V_far (p := ⟨gb329, 0, none⟩) (Kd.V_mono (Kd.V_mono HO320.out (fun k_ hk => (⟨hk, hk.1.2⟩ : _ ∧ k_ ≠ gb329))) (fun k_ hk => (⟨hk, hk.1.2⟩ : _ ∧ k_ ≠ gb330))) (fun _ hk => hk.1.2) (.int .i64 t317)) (fun _ hk => hk.1.2) (.slice Ao72 t318.length co72)) (fun _ hk => hk.1.2) (.slice Ao73 t321.length co73))) (fun _ hk => ⟨hk.1.1.1.1.1, ⟨hk.1.1.1.1.2.1, ⟨hk.1.1.1.1.2.2.1, ⟨hk.1.1.1.1.2.2.2, ⟨hk.1.1.1.2, hk.1.1.2⟩⟩⟩⟩⟩)⟩, ⟨by (with_reducible repeat (first | apply Kd.V_alloc | apply Kd.V_drewN | apply Kd.V_drew)); exact Kd.V_mono (v2_ (g := gb330) (Kd.V_far (p := ⟨gb329, 2, none⟩) (Kd.V_far (p := ⟨gb329, 1, none⟩) (Kd.V_far (p := ⟨gb329, 0, none⟩) (Kd.V_mono (Kd.V_mono HO323.out (fun k_ hk => (⟨hk, hk.1.2⟩ : _ ∧ k_ ≠ gb329))) (fun k_ hk => (⟨hk, hk.1.2⟩ : _ ∧ k_ ≠ gb330))) (fun _ hk => hk.1.2) (.int .i64 t317)) (fun _ hk => hk.1.2) (.slice Ao72 t318.length co72)) (fun _ hk => hk.1.2) (.slice Ao73 t321.length co73))) (fun _ hk => ⟨hk.1.1.1.1.1, ⟨hk.1.1.1.1.2.1, ⟨hk.1.1.1.1.2.2.1, ⟨hk.1.1.1.1.2.2.2, ⟨hk.1.1.1.2, hk.1.1.2⟩⟩⟩⟩⟩)⟩, ⟨by (with_reducible repeat (first | apply Kd.V_alloc | apply Kd.V_drewN | apply Kd.V_drew)); exact Kd.V_mono (v2_ (g := gb330) (Kd.V_far (p := ⟨gb329, 2, none⟩) (Kd.V_far (p := ⟨gb329, 1, none⟩) (Kd.V_far (p := ⟨gb329, 0, none⟩) (Kd.V_mono (Kd.V_mono HO327.out (fun k_ hk => (⟨hk, hk.1.2⟩ : _ ∧ k_ ≠ gb329))) (fun k_ hk => (⟨hk, hk.1.2⟩ : _ ∧ k_ ≠ gb330))) (fun _ hk => hk.1.2) (.int .i64 t317)) (fun _ hk => hk.1.2) (.slice Ao72 t318.length co72)) (fun _ hk => hk.1.2) (.slice Ao73 t321.length co73))) (fun _ hk => ⟨hk.1.1.1.1.1, ⟨hk.1.1.1.1.2.1, ⟨hk.1.1.1.1.2.2.1, ⟨hk.1.1.1.1.2.2.2, ⟨hk.1.1.1.2, hk.1.1.2⟩⟩⟩⟩⟩)⟩, ⟨by (with_reducible repeat (first | refine blk_drewN ?_ _ | refine blk_drew ?_ | refine blk_alloc ?_ _)); refine blk_far ?_ NB292_330.out _; (with_reducible repeat (first | refine blk_drewN ?_ _ | refine blk_drew ?_ | refine blk_alloc ?_ _)); refine blk_far ?_ NB292_330.out _; (with_reducible repeat (first | refine blk_drewN ?_ _ | refine blk_drew ?_ | refine blk_alloc ?_ _)); refine blk_far ?_ NB292_329.out _; (with_reducible repeat (first | refine blk_drewN ?_ _ | refine blk_drew ?_ | refine blk_alloc ?_ _)); refine blk_far ?_ NB292_329.out _; (with_reducible repeat (first | refine blk_drewN ?_ _ | refine blk_drew ?_ | refine blk_alloc ?_ _)); refine blk_far ?_ NB292_329.out _; (with_reducible repeat (first | refine blk_drewN ?_ _ | refine blk_drew ?_ | refine blk_alloc ?_ _)); exact BK292.out⟩, ⟨by (with_reducible repeat (first | refine blk_drewN ?_ _ | refine blk_drew ?_ | refine blk_alloc ?_ _)); refine blk_far ?_ NB293_330.out _; (with_reducible repeat (first | refine blk_drewN ?_ _ | refine blk_drew ?_ | refine blk_alloc ?_ _)); refine blk_far ?_ NB293_330.out _; (with_reducible repeat (first | refine blk_drewN ?_ _ | refine blk_drew ?_ | refine blk_alloc ?_ _)); refine blk_far ?_ NB293_329.out _; (with_reducible repeat (first | refine blk_drewN ?_ _ | refine blk_drew ?_ | refine blk_alloc ?_ _)); refine blk_far ?_ NB293_329.out _; (with_reducible repeat (first | refine blk_drewN ?_ _ | refine blk_drew ?_ | refine blk_alloc ?_ _)); refine blk_far ?_ NB293_329.out _; (with_reducible repeat (first | refine blk_drewN ?_ _ | refine blk_drew ?_ | refine blk_alloc ?_ _)); exact BK293.out⟩, ⟨by (with_reducible repeat (first | refine blk_drewN ?_ _ | refine blk_drew ?_ | refine blk_alloc ?_ _)); refine blk_far ?_ NB307_330.out _; (with_reducible repeat (first | refine blk_drewN ?_ _ | refine blk_drew ?_ | refine blk_alloc ?_ _)); refine blk_far ?_ NB307_330.out _; (with_reducible repeat (first | refine blk_drewN ?_ _ | refine blk_drew ?_ | refine blk_alloc ?_ _)); refine blk_far ?_ NB307_329.out _; (with_reducible repeat (first | refine blk_drewN ?_ _ | refine blk_drew ?_ | refine blk_alloc ?_ _)); refine blk_far ?_ NB307_329.out _; (with_reducible repeat (first | refine blk_drewN ?_ _ | refine blk_drew ?_ | refine blk_alloc ?_ _)); refine blk_far ?_ NB307_329.out _; (with_reducible repeat (first | refine blk_drewN ?_ _ | refine blk_drew ?_ | refine blk_alloc ?_ _)); exact BK307.out⟩, ⟨by (with_reducible repeat (first | refine blk_drewN ?_ _ | refine blk_drew ?_ | refine blk_alloc ?_ _)); refine blk_far ?_ NB316_330.out _; (with_reducible repeat (first | refine blk_drewN ?_ _ | refine blk_drew ?_ | refine blk_alloc ?_ _)); refine blk_far ?_ NB316_330.out _; (with_reducible repeat (first | refine blk_drewN ?_ _ | refine blk_drew ?_ | refine blk_alloc ?_ _)); refine blk_far ?_ NB316_329.out _; (with_reducible repeat (first | refine blk_drewN ?_ _ | refine blk_drew ?_ | refine blk_alloc ?_ _)); refine blk_far ?_ NB316_329.out _; (with_reducible repeat (first | refine blk_drewN ?_ _ | refine blk_drew ?_ | refine blk_alloc ?_ _)); refine blk_far ?_ NB316_329.out _; (with_reducible repeat (first | refine blk_drewN ?_ _ | refine blk_drew ?_ | refine blk_alloc ?_ _)); exact BK316.out⟩, ⟨by (with_reducible repeat (first | refine blk_drewN ?_ _ | refine blk_drew ?_ | refine blk_alloc ?_ _)); refine blk_far ?_ NB329_330.out _; (with_reducible repeat (first | refine blk_drewN ?_ _ | refine blk_drew ?_ | refine blk_alloc ?_ _)); refine blk_far ?_ NB329_330.out _; (with_reducible repeat (first | refine blk_drewN ?_ _ | refine blk_drew ?_ | refine blk_alloc ?_ _)); refine blk_put (cs := #[.int .i64 t317, .slice Ao72 t318.length co72, .slice none 0 0]) ?_ 2 _ rfl; (with_reducible repeat (first | refine blk_drewN ?_ _ | refine blk_drew ?_ | refine blk_alloc ?_ _)); refine blk_put (cs := #[.int .i64 t317, .slice none 0 0, .slice none 0 0]) ?_ 1 _ rfl; (with_reducible repeat (first | refine blk_drewN ?_ _ | refine blk_drew ?_ | refine blk_alloc ?_ _)); refine blk_put (cs := #[.int .i64 0, .slice none 0 0, .slice none 0 0]) ?_ 0 _ rfl; (with_reducible repeat (first | refine blk_drewN ?_ _ | refine blk_drew ?_ | refine blk_alloc ?_ _)); exact BK329.out⟩, ⟨by (with_reducible repeat (first | refine blk_drewN ?_ _ | refine blk_drew ?_ | refine blk_alloc ?_ _)); refine blk_put (cs := #[.int .u32 t324, .slice none 0 0]) ?_ 1 _ rfl; (with_reducible repeat (first | refine blk_drewN ?_ _ | refine blk_drew ?_ | refine blk_alloc ?_ _)); refine blk_put (cs := #[.int .u32 0, .slice none 0 0]) ?_ 0 _ rfl; (with_reducible repeat (first | refine blk_drewN ?_ _ | refine blk_drew ?_ | refine blk_alloc ?_ _)); refine blk_far ?_ NB330_329.out _; (with_reducible repeat (first | refine blk_drewN ?_ _ | refine blk_drew ?_ | refine blk_alloc ?_ _)); refine blk_far ?_ NB330_329.out _; (with_reducible repeat (first | refine blk_drewN ?_ _ | refine blk_drew ?_ | refine blk_alloc ?_ _)); refine blk_far ?_ NB330_329.out _; (with_reducible repeat (first | refine blk_drewN ?_ _ | refine blk_drew ?_ | refine blk_alloc ?_ _)); exact BK330.out⟩, ⟨by repeat (first | (with_reducible first | exact HB.out | apply below_alloc | apply pw_below_drewN | apply below_drew1 | refine below_set ?_ GE292.out | refine below_set ?_ GE293.out | refine below_set ?_ GE307.out | refine below_set ?_ GE316.out | refine below_set ?_ GE329.out | refine below_set ?_ GE330.out) | exact HB.out)⟩⟩
          · rw [if_neg c80] at H
            have c80b0 : decide (0 ≤ a2) = false := decide_eq_false c80
            clear c80
            (first | rw [c80b0] | (simp only [i64_w, i32_w]; rw [c80b0]) | skip)
            have H' := Aside0.mk H
            clear H
            go_wp2
            go_meet
            case rel => exact ⟨_, (false), (by first | rfl | (simp; done) | (simp [*]; done)), H', ⟨by have := HJ3.out; first | omega | exact Nat.le_refl _⟩, ⟨by (with_reducible repeat (first | apply Kd.V_alloc | apply Kd.V_drewN | apply Kd.V_drew)); exact Kd.V_mono (v2_ (g := gb330) (Kd.V_far (p := ⟨gb329, 2, none⟩) (Kd.V_far (p := ⟨gb329, 1, none⟩) (Kd.V_far (p := ⟨gb329, 0, none⟩) (Kd.V_mono (Kd.V_mono HO302.out (fun k_ hk => (⟨hk, hk.1.2⟩ : _ ∧ k_ ≠ gb329))) (fun k_ hk => (⟨hk, hk.1.2⟩ : _ ∧ k_ ≠ gb330))) (fun _ hk => hk.1.2) (.int .i64 t317)) (fun _ hk => hk.1.2) (.slice Ao72 t318.length co72)) (fun _ hk => hk.1.2) (.slice Ao73 t321.length co73))) (fun _ hk => ⟨hk.1.1.1.1.1, ⟨hk.1.1.1.1.2.1, ⟨hk.1.1.1.1.2.2.1, ⟨hk.1.1.1.1.2.2.2, ⟨hk.1.1.1.2, hk.1.1.2⟩⟩⟩⟩⟩)⟩, ⟨by (with_reducible repeat (first | apply Kd.V_alloc | apply Kd.V_drewN | apply Kd.V_drew)); exact Kd.V_mono (v2_ (g := gb330) (Kd.V_far (p := ⟨gb329, 2, none⟩) (Kd.V_far (p := ⟨gb329, 1, none⟩) (Kd.V_far (p := ⟨gb329, 0, none⟩) (Kd.V_mono (Kd.V_mono HO305.out (fun k_ hk => (⟨hk, hk.1.2⟩ : _ ∧ k_ ≠ gb329))) (fun k_ hk => (⟨hk, hk.1.2⟩ : _ ∧ k_ ≠ gb330))) (fun _ hk => hk.1.2) (.int .i64 t317)) (fun _ hk => hk.1.2) (.slice Ao72 t318.length co72)) (fun _ hk => hk.1.2) (.slice Ao73 t321.length co73))) (fun _ hk => ⟨hk.1.1.1.1.1, ⟨hk.1.1.1.1.2.1, ⟨hk.1.1.1.1.2.2.1, ⟨hk.1.1.1.1.2.2.2, ⟨hk.1.1.1.2, hk.1.1.2⟩⟩⟩⟩⟩)⟩, ⟨by (with_reducible repeat (first | apply Kd.V_alloc | apply Kd.V_drewN | apply Kd.V_drew)); exact Kd.V_mono (v2_ (g := gb330) (Kd.V_far (p := ⟨gb329, 2, none⟩) (Kd.V_far (p := ⟨gb329, 1, none⟩) (Kd.V_far (p := ⟨gb329, 0, none⟩) (Kd.V_mono (Kd.V_mono HO311.out (fun k_ hk => (⟨hk, hk.1.2⟩ : _ ∧ k_ ≠ gb329))) (fun k_ hk => (⟨hk, hk.1.2⟩ : _ ∧ k_ ≠ gb330))) (fun _ hk => hk.1.2) (.int .i64 t317)) (fun _ hk => hk.1.2) (.slice Ao72 t318.length co72)) (fun _ hk => hk.1.2) (.slice Ao73 t321.length co73))) (fun _ hk => ⟨hk.1.1.1.1.1, ⟨hk.1.1.1.1.2.1, ⟨hk.1.1.1.1.2.2.1, ⟨hk.1.1.1.1.2.2.2, ⟨hk.1.1.1.2, hk.1.1.2⟩⟩⟩⟩⟩)⟩, ⟨by (with_reducible repeat (first | apply Kd.V_alloc | apply Kd.V_drewN | apply Kd.V_drew)); exact Kd.V_mono (v2_ (g := gb330) (Kd.V_far (p := ⟨gb329, 2, none⟩) (Kd.V_far (p := ⟨gb329, 1, none⟩) (Kd.V_far (p := ⟨gb329, 0, none⟩) (Kd.V_mono (Kd.V_mono HO314.out (fun k_ hk => (⟨hk, hk.1.2⟩ : _ ∧ k_ ≠ gb329))) (fun k_ hk => (⟨hk, hk.1.2⟩ : _ ∧ k_ ≠ gb330))) (fun _ hk => hk.1.2) (.int .i64 t317)) (fun _ hk => hk.1.2) (.slice Ao72 t318.length co72)) (fun _ hk => hk.1.2) (.slice Ao73 t321.length co73))) (fun _ hk => ⟨hk.1.1.1.1.1, ⟨hk.1.1.1.1.2.1, ⟨hk.1.1.1.1.2.2.1, ⟨hk.1.1.1.1.2.2.2, ⟨hk.1.1.1.2, hk.1.1.2⟩⟩⟩⟩⟩)⟩, ⟨by (with_reducible repeat (first | apply Kd.V_alloc | apply Kd.V_drewN | apply Kd.V_drew)); exact Kd.V_mono (v2_ (g := gb330) (Kd.V_far (p := ⟨gb329, 2, none⟩) (Kd.V_far (p := ⟨gb329, 1, none⟩) (Kd.V_far (p := ⟨gb329, 0, none⟩) (Kd.V_mono (Kd.V_mono HO320.out (fun k_ hk => (⟨hk, hk.1.2⟩ : _ ∧ k_ ≠ gb329))) (fun k_ hk => (⟨hk, hk.1.2⟩ : _ ∧ k_ ≠ gb330))) (fun _ hk => hk.1.2) (.int .i64 t317)) (fun _ hk => hk.1.2) (.slice Ao72 t318.length co72)) (fun _ hk => hk.1.2) (.slice Ao73 t321.length co73))) (fun _ hk => ⟨hk.1.1.1.1.1, ⟨hk.1.1.1.1.2.1, ⟨hk.1.1.1.1.2.2.1, ⟨hk.1.1.1.1.2.2.2, ⟨hk.1.1.1.2, hk.1.1.2⟩⟩⟩⟩⟩)⟩, ⟨by (with_reducible repeat (first | apply Kd.V_alloc | apply Kd.V_drewN | apply Kd.V_drew)); exact Kd.V_mono (v2_ (g := gb330) (Kd.V_far (p := ⟨gb329, 2, none⟩) (Kd.V_far (p := ⟨gb329, 1, none⟩) (Kd.V_far (p := ⟨gb329, 0, none⟩) (Kd.V_mono (Kd.V_mono HO323.out (fun k_ hk => (⟨hk, hk.1.2⟩ : _ ∧ k_ ≠ gb329))) (fun k_ hk => (⟨hk, hk.1.2⟩ : _ ∧ k_ ≠ gb330))) (fun _ hk => hk.1.2) (.int .i64 t317)) (fun _ hk => hk.1.2) (.slice Ao72 t318.length co72)) (fun _ hk => hk.1.2) (.slice Ao73 t321.length co73))) (fun _ hk => ⟨hk.1.1.1.1.1, ⟨hk.1.1.1.1.2.1, ⟨hk.1.1.1.1.2.2.1, ⟨hk.1.1.1.1.2.2.2, ⟨hk.1.1.1.2, hk.1.1.2⟩⟩⟩⟩⟩)⟩, ⟨by (with_reducible repeat (first | apply Kd.V_alloc | apply Kd.V_drewN | apply Kd.V_drew)); exact Kd.V_mono (v2_ (g := gb330) (Kd.V_far (p := ⟨gb329, 2, none⟩) (Kd.V_far (p := ⟨gb329, 1, none⟩) (Kd.V_far (p := ⟨gb329, 0, none⟩) (Kd.V_mono (Kd.V_mono HO327.out (fun k_ hk => (⟨hk, hk.1.2⟩ : _ ∧ k_ ≠ gb329))) (fun k_ hk => (⟨hk, hk.1.2⟩ : _ ∧ k_ ≠ gb330))) (fun _ hk => hk.1.2) (.int .i64 t317)) (fun _ hk => hk.1.2) (.slice Ao72 t318.length co72)) (fun _ hk => hk.1.2) (.slice Ao73 t321.length co73))) (fun _ hk => ⟨hk.1.1.1.1.1, ⟨hk.1.1.1.1.2.1, ⟨hk.1.1.1.1.2.2.1, ⟨hk.1.1.1.1.2.2.2, ⟨hk.1.1.1.2, hk.1.1.2⟩⟩⟩⟩⟩)⟩, ⟨by (with_reducible repeat (first | refine blk_drewN ?_ _ | refine blk_drew ?_ | refine blk_alloc ?_ _)); refine blk_far ?_ NB292_330.out _; (with_reducible repeat (first | refine blk_drewN ?_ _ | refine blk_drew ?_ | refine blk_alloc ?_ _)); refine blk_far ?_ NB292_330.out _; (with_reducible repeat (first | refine blk_drewN ?_ _ | refine blk_drew ?_ | refine blk_alloc ?_ _)); refine blk_far ?_ NB292_329.out _; (with_reducible repeat (first | refine blk_drewN ?_ _ | refine blk_drew ?_ | refine blk_alloc ?_ _)); refine blk_far ?_ NB292_329.out _; (with_reducible repeat (first | refine blk_drewN ?_ _ | refine blk_drew ?_ | refine blk_alloc ?_ _)); refine blk_far ?_ NB292_329.out _; (with_reducible repeat (first | refine blk_drewN ?_ _ | refine blk_drew ?_ | refine blk_alloc ?_ _)); exact BK292.out⟩, ⟨by (with_reducible repeat (first | refine blk_drewN ?_ _ | refine blk_drew ?_ | refine blk_alloc ?_ _)); refine blk_far ?_ NB293_330.out _; (with_reducible repeat (first | refine blk_drewN ?_ _ | refine blk_drew ?_ | refine blk_alloc ?_ _)); refine blk_far ?_ NB293_330.out _; (with_reducible repeat (first | refine blk_drewN ?_ _ | refine blk_drew ?_ | refine blk_alloc ?_ _)); refine blk_far ?_ NB293_329.out _; (with_reducible repeat (first | refine blk_drewN ?_ _ | refine blk_drew ?_ | refine blk_alloc ?_ _)); refine blk_far ?_ NB293_329.out _; (with_reducible repeat (first | refine blk_drewN ?_ _ | refine blk_drew ?_ | refine blk_alloc ?_ _)); refine blk_far ?_ NB293_329.out _; (with_reducible repeat (first | refine blk_drewN ?_ _ | refine blk_drew ?_ | refine blk_alloc ?_ _)); exact BK293.out⟩, ⟨by (with_reducible repeat (first | refine blk_drewN ?_ _ | refine blk_drew ?_ | refine blk_alloc ?_ _)); refine blk_far ?_ NB307_330.out _; (with_reducible repeat (first | refine blk_drewN ?_ _ | refine blk_drew ?_ | refine blk_alloc ?_ _)); refine blk_far ?_ NB307_330.out _; (with_reducible repeat (first | refine blk_drewN ?_ _ | refine blk_drew ?_ | refine blk_alloc ?_ _)); refine blk_far ?_ NB307_329.out _; (with_reducible repeat (first | refine blk_drewN ?_ _ | refine blk_drew ?_ | refine blk_alloc ?_ _)); refine blk_far ?_ NB307_329.out _; (with_reducible repeat (first | refine blk_drewN ?_ _ | refine blk_drew ?_ | refine blk_alloc ?_ _)); refine blk_far ?_ NB307_329.out _; (with_reducible repeat (first | refine blk_drewN ?_ _ | refine blk_drew ?_ | refine blk_alloc ?_ _)); exact BK307.out⟩, ⟨by (with_reducible repeat (first | refine blk_drewN ?_ _ | refine blk_drew ?_ | refine blk_alloc ?_ _)); refine blk_far ?_ NB316_330.out _; (with_reducible repeat (first | refine blk_drewN ?_ _ | refine blk_drew ?_ | refine blk_alloc ?_ _)); refine blk_far ?_ NB316_330.out _; (with_reducible repeat (first | refine blk_drewN ?_ _ | refine blk_drew ?_ | refine blk_alloc ?_ _)); refine blk_far ?_ NB316_329.out _; (with_reducible repeat (first | refine blk_drewN ?_ _ | refine blk_drew ?_ | refine blk_alloc ?_ _)); refine blk_far ?_ NB316_329.out _; (with_reducible repeat (first | refine blk_drewN ?_ _ | refine blk_drew ?_ | refine blk_alloc ?_ _)); refine blk_far ?_ NB316_329.out _; (with_reducible repeat (first | refine blk_drewN ?_ _ | refine blk_drew ?_ | refine blk_alloc ?_ _)); exact BK316.out⟩, ⟨by (with_reducible repeat (first | refine blk_drewN ?_ _ | refine blk_drew ?_ | refine blk_alloc ?_ _)); refine blk_far ?_ NB329_330.out _; (with_reducible repeat (first | refine blk_drewN ?_ _ | refine blk_drew ?_ | refine blk_alloc ?_ _)); refine blk_far ?_ NB329_330.out _; (with_reducible repeat (first | refine blk_drewN ?_ _ | refine blk_drew ?_ | refine blk_alloc ?_ _)); refine blk_put (cs := #[.int .i64 t317, .slice Ao72 t318.length co72, .slice none 0 0]) ?_ 2 _ rfl; (with_reducible repeat (first | refine blk_drewN ?_ _ | refine blk_drew ?_ | refine blk_alloc ?_ _)); refine blk_put (cs := #[.int .i64 t317, .slice none 0 0, .slice none 0 0]) ?_ 1 _ rfl; (with_reducible repeat (first | refine blk_drewN ?_ _ | refine blk_drew ?_ | refine blk_alloc ?_ _)); refine blk_put (cs := #[.int .i64 0, .slice none 0 0, .slice none 0 0]) ?_ 0 _ rfl; (with_reducible repeat (first | refine blk_drewN ?_ _ | refine blk_drew ?_ | refine blk_alloc ?_ _)); exact BK329.out⟩, ⟨by (with_reducible repeat (first | refine blk_drewN ?_ _ | refine blk_drew ?_ | refine blk_alloc ?_ _)); refine blk_put (cs := #[.int .u32 t324, .slice none 0 0]) ?_ 1 _ rfl; (with_reducible repeat (first | refine blk_drewN ?_ _ | refine blk_drew ?_ | refine blk_alloc ?_ _)); refine blk_put (cs := #[.int .u32 0, .slice none 0 0]) ?_ 0 _ rfl; (with_reducible repeat (first | refine blk_drewN ?_ _ | refine blk_drew ?_ | refine blk_alloc ?_ _)); refine blk_far ?_ NB330_329.out _; (with_reducible repeat (first | refine blk_drewN ?_ _ | refine blk_drew ?_ | refine blk_alloc ?_ _)); refine blk_far ?_ NB330_329.out _; (with_reducible repeat (first | refine blk_drewN ?_ _ | refine blk_drew ?_ | refine blk_alloc ?_ _)); refine blk_far ?_ NB330_329.out _; (with_reducible repeat (first | refine blk_drewN ?_ _ | refine blk_drew ?_ | refine blk_alloc ?_ _)); exact BK330.out⟩, ⟨by repeat (first | (with_reducible first | exact HB.out | apply below_alloc | apply pw_below_drewN | apply below_drew1 | refine below_set ?_ GE292.out | refine below_set ?_ GE293.out | refine below_set ?_ GE307.out | refine below_set ?_ GE316.out | refine below_set ?_ GE329.out | refine below_set ?_ GE330.out) | exact HB.out)⟩⟩
        case rest =>
          clear HC38
          try clear c1
          try clear c2
          try clear p2
          try clear c3
          try clear c4
          try clear c5
          try clear c6
          try clear c7
          try clear c8
          try clear c10
          try clear c12
          try clear c14
          try clear c16
          try clear c20
          try clear c21
          try clear c27
          try clear c31
          try clear c39
          try clear c46
          try clear c47
          try clear c55
          try clear c56
          try clear c57
          try clear c66
          try clear c67
          try clear c68
          try clear c69
          try clear c70
          try clear c74
          try clear c75
          try clear c76
          try clear c77
          try clear c80
          try clear c80b0
          try clear c81
          try clear c82
          try clear c83
          try clear c84
          try clear c85
          try clear hcz15_0
          try clear hcz15_1
          try clear hcz15_2
          try clear hcz17_0
          try clear hcz17_1
          try clear hcz17_2
          try clear hcz19_0
          try clear hcz19_1
          try clear hcz22_0
          try clear hcz22_1
          try clear hcz22_2
          try clear hcz24_0
          try clear hcz24_1
          try clear hcz24_2
          try clear hcz28_0
          try clear hcz28_1
          try clear hcz28_2
          try clear hcz40_0
          try clear hcz40_1
          try clear hcz40_2
          try clear hcz42_0
          try clear hcz42_1
          try clear hcz42_2
          try clear hcz43_0
          try clear hcz43_1
          try clear hcz48_0
          try clear hcz48_1
          try clear hcz48_2
          try clear hcz52_0
          try clear hcz52_1
          try clear hcz52_2
          try clear hcz58_0
          try clear hcz58_1
          try clear hcz58_2
          try clear hcz62_0
          try clear hcz62_1
          try clear hcz62_2
          try clear hcz71_0
          try clear hcz71_1
          try clear hcz71_2
          try clear hcz78_0
          try clear hcz78_1
          try clear hcz86_0
          try clear hcz86_1
          try clear hcz86_2
          try clear hfz15_0
          try clear hfz15_1
          try clear hfz15_2
          try clear hfz17_0
          try clear hfz17_1
          try clear hfz17_2
          try clear hfz19_0
          try clear hfz19_1
          try clear hfz22_0
          try clear hfz22_1
          try clear hfz22_2
          try clear hfz24_0
          try clear hfz24_1
          try clear hfz24_2
          try clear hfz28_0
          try clear hfz28_1
          try clear hfz28_2
          try clear hfz40_0
          try clear hfz40_1
          try clear hfz40_2
          try clear hfz42_0
          try clear hfz42_1
          try clear hfz42_2
          try clear hfz43_0
          try clear hfz43_1
          try clear hfz48_0
          try clear hfz48_1
          try clear hfz48_2
          try clear hfz52_0
          try clear hfz52_1
          try clear hfz52_2
          try clear hfz58_0
          try clear hfz58_1
          try clear hfz58_2
          try clear hfz62_0
          try clear hfz62_1
          try clear hfz62_2
          try clear hfz71_0
          try clear hfz71_1
          try clear hfz71_2
          try clear hfz78_0
          try clear hfz78_1
          try clear hfz86_0
          try clear hfz86_1
          try clear hfz86_2
          try clear p2
          obtain ⟨kq, x15_37, rfl, HA, HJ37, HO_308001, HO_308002, HO_317001, HO_317002, HO_330001, HO_330002, HO_331001, BK292, BK293, BK307, BK316, BK329, BK330, HB⟩ := hcut
          cases kq with
          | zero => exact absurd HA.out (by simp [chamberlainlaw06_NetRoom.j1])
          | succ kj37 =>
            have H := HA.out
            clear HA
            simp only [chamberlainlaw06_NetRoom.j1] at H
            have HC87 := Aside0.mk H
            clear H
            go_upto_region 8 with (fail)
            go_cut [88] (fun v88 wc => ∃ (kq : Nat) (x88_86 : Bool), v88 = .bool x88_86 ∧ Aside0 (chamberlainlaw06_NetRoom.j2 kq t298 t306 t315 t328 x88_86 a0_0 l0_1 l0_2 t299 t300 t303 t308 t309 t312 t317 t318 t321 t324 t325 = some r) ∧ Aside0 (kq ≤ kj37) ∧ Aside0 (Kd.V k29 29 wc w.heap.size (fun k_ => k_ ≠ gb292 ∧ k_ ≠ gb293 ∧ k_ ≠ gb307 ∧ k_ ≠ gb316 ∧ k_ ≠ gb329 ∧ k_ ≠ gb330) (.slice Ao49 t300.length co49) t300) ∧ Aside0 (Kd.V (Kd.slice 26 (Kd.int .u32)) 27 wc w.heap.size (fun k_ => k_ ≠ gb292 ∧ k_ ≠ gb293 ∧ k_ ≠ gb307 ∧ k_ ≠ gb316 ∧ k_ ≠ gb329 ∧ k_ ≠ gb330) (.slice Ao50 t303.length co50) t303) ∧ Aside0 (Kd.V k29 29 wc w.heap.size (fun k_ => k_ ≠ gb292 ∧ k_ ≠ gb293 ∧ k_ ≠ gb307 ∧ k_ ≠ gb316 ∧ k_ ≠ gb329 ∧ k_ ≠ gb330) (.slice Ao59 t309.length co59) t309) ∧ Aside0 (Kd.V (Kd.slice 26 (Kd.int .u32)) 27 wc w.heap.size (fun k_ => k_ ≠ gb292 ∧ k_ ≠ gb293 ∧ k_ ≠ gb307 ∧ k_ ≠ gb316 ∧ k_ ≠ gb329 ∧ k_ ≠ gb330) (.slice Ao60 t312.length co60) t312) ∧ Aside0 (Kd.V k29 29 wc w.heap.size (fun k_ => k_ ≠ gb292 ∧ k_ ≠ gb293 ∧ k_ ≠ gb307 ∧ k_ ≠ gb316 ∧ k_ ≠ gb329 ∧ k_ ≠ gb330) (.slice Ao72 t318.length co72) t318) ∧ Aside0 (Kd.V (Kd.slice 26 (Kd.int .u32)) 27 wc w.heap.size (fun k_ => k_ ≠ gb292 ∧ k_ ≠ gb293 ∧ k_ ≠ gb307 ∧ k_ ≠ gb316 ∧ k_ ≠ gb329 ∧ k_ ≠ gb330) (.slice Ao73 t321.length co73) t321) ∧ Aside0 (Kd.V (Kd.int .u32) 26 wc w.heap.size (fun k_ => k_ ≠ gb292 ∧ k_ ≠ gb293 ∧ k_ ≠ gb307 ∧ k_ ≠ gb316 ∧ k_ ≠ gb329 ∧ k_ ≠ gb330) (.slice Ao79 t325.length co79) t325) ∧ Aside0 (wc.heap[gb292]? = some (.cells #[.int .i64 a0_0, (.slice A0_1 l0_1.length c0_1), (.slice A0_2 l0_2.length c0_2)] 25 (0, 0))) ∧ Aside0 (wc.heap[gb293]? = some (.cells #[.int .u32 a1_0, (.slice A1_1 l1_1.length c1_1)] 29 (0, 0))) ∧ Aside0 (wc.heap[gb307]? = some (.cells #[.int .i64 t299, (.slice Ao49 t300.length co49), (.slice Ao50 t303.length co50)] 25 (0, 0))) ∧ Aside0 (wc.heap[gb316]? = some (.cells #[.int .i64 t308, (.slice Ao59 t309.length co59), (.slice Ao60 t312.length co60)] 25 (0, 0))) ∧ Aside0 (wc.heap[gb329]? = some (.cells #[.int .i64 t317, (.slice Ao72 t318.length co72), (.slice Ao73 t321.length co73)] 25 (0, 0))) ∧ Aside0 (wc.heap[gb330]? = some (.cells #[.int .u32 t324, (.slice Ao79 t325.length co79)] 29 (0, 0))) ∧ Aside0 (Below w.heap.size w wc))
            case first =>
              have H := HC87.out
              clear HC87
              by_cases c88 : ((t306 == 0) != (decide (t298 > 0))) = true
              · rw [if_pos c88] at H
                have c88b0 : ((t306 == 0) != (decide (t298 > 0))) = true := c88
                (try (have c88b1 : decide ((t306 == 0) = (decide (t298 > 0))) = false := by simpa using c88))
                (try (have c88b2 : ((t306 == 0) == (decide (t298 > 0))) = false := by simpa using c88))
                (try (have c88b3 : ¬ ((t306 == 0) = (decide (t298 > 0))) := by simpa using c88))
                clear c88
                (first | rw [c88b0] | (simp only [i64_w, i32_w]; rw [c88b0]) | skip)
                have H' := Aside0.mk H
                clear H
                go_wp2
                go_meet
                case rel => exact ⟨_, (true), (by first | rfl | (simp; done) | (simp [*]; done)), H', ⟨by have := HJ3.out; have := HJ37.out; first | omega | exact Nat.le_refl _⟩, ⟨by (with_reducible repeat (first | apply Kd.V_alloc | apply Kd.V_drewN | apply Kd.V_drew)); exact HO_308001.out⟩, ⟨by (with_reducible repeat (first | apply Kd.V_alloc | apply Kd.V_drewN | apply Kd.V_drew)); exact HO_308002.out⟩, ⟨by (with_reducible repeat (first | apply Kd.V_alloc | apply Kd.V_drewN | apply Kd.V_drew)); exact HO_317001.out⟩, ⟨by (with_reducible repeat (first | apply Kd.V_alloc | apply Kd.V_drewN | apply Kd.V_drew)); exact HO_317002.out⟩, ⟨by (with_reducible repeat (first | apply Kd.V_alloc | apply Kd.V_drewN | apply Kd.V_drew)); exact HO_330001.out⟩, ⟨by (with_reducible repeat (first | apply Kd.V_alloc | apply Kd.V_drewN | apply Kd.V_drew)); exact HO_330002.out⟩, ⟨by (with_reducible repeat (first | apply Kd.V_alloc | apply Kd.V_drewN | apply Kd.V_drew)); exact HO_331001.out⟩, ⟨by (with_reducible repeat (first | refine blk_drewN ?_ _ | refine blk_drew ?_ | refine blk_alloc ?_ _)); exact BK292.out⟩, ⟨by (with_reducible repeat (first | refine blk_drewN ?_ _ | refine blk_drew ?_ | refine blk_alloc ?_ _)); exact BK293.out⟩, ⟨by (with_reducible repeat (first | refine blk_drewN ?_ _ | refine blk_drew ?_ | refine blk_alloc ?_ _)); exact BK307.out⟩, ⟨by (with_reducible repeat (first | refine blk_drewN ?_ _ | refine blk_drew ?_ | refine blk_alloc ?_ _)); exact BK316.out⟩, ⟨by (with_reducible repeat (first | refine blk_drewN ?_ _ | refine blk_drew ?_ | refine blk_alloc ?_ _)); exact BK329.out⟩, ⟨by (with_reducible repeat (first | refine blk_drewN ?_ _ | refine blk_drew ?_ | refine blk_alloc ?_ _)); exact BK330.out⟩, ⟨by repeat (first | (with_reducible first | exact HB.out | apply below_alloc | apply pw_below_drewN | apply below_drew1 | refine below_set ?_ GE292.out | refine below_set ?_ GE293.out | refine below_set ?_ GE307.out | refine below_set ?_ GE316.out | refine below_set ?_ GE329.out | refine below_set ?_ GE330.out) | exact HB.out)⟩⟩
              · rw [if_neg c88] at H
                have c88b0 : ((t306 == 0) != (decide (t298 > 0))) = false := by simpa using c88
                (try (have c88b1 : decide ((t306 == 0) = (decide (t298 > 0))) = true := by simpa using c88))
                (try (have c88b2 : ((t306 == 0) == (decide (t298 > 0))) = true := by simpa using c88))
                clear c88
                (first | rw [c88b0] | (simp only [i64_w, i32_w]; rw [c88b0]) | skip)
                by_cases c89 : ((t328 == 0) != x15_37) = true
                · rw [if_pos c89] at H
                  have c89b0 : ((t328 == 0) != x15_37) = true := c89
                  (try (have c89b1 : decide ((t328 == 0) = x15_37) = false := by simpa using c89))
                  (try (have c89b2 : ((t328 == 0) == x15_37) = false := by simpa using c89))
                  (try (have c89b3 : ¬ ((t328 == 0) = x15_37) := by simpa using c89))
                  clear c89
                  have H' := Aside0.mk H
                  clear H
                  go_wp2
                  go_meet
                  case rel => exact ⟨_, (true), (by first | rfl | (simp; done) | (simp [*]; done)), H', ⟨by have := HJ3.out; have := HJ37.out; first | omega | exact Nat.le_refl _⟩, ⟨by (with_reducible repeat (first | apply Kd.V_alloc | apply Kd.V_drewN | apply Kd.V_drew)); exact HO_308001.out⟩, ⟨by (with_reducible repeat (first | apply Kd.V_alloc | apply Kd.V_drewN | apply Kd.V_drew)); exact HO_308002.out⟩, ⟨by (with_reducible repeat (first | apply Kd.V_alloc | apply Kd.V_drewN | apply Kd.V_drew)); exact HO_317001.out⟩, ⟨by (with_reducible repeat (first | apply Kd.V_alloc | apply Kd.V_drewN | apply Kd.V_drew)); exact HO_317002.out⟩, ⟨by (with_reducible repeat (first | apply Kd.V_alloc | apply Kd.V_drewN | apply Kd.V_drew)); exact HO_330001.out⟩, ⟨by (with_reducible repeat (first | apply Kd.V_alloc | apply Kd.V_drewN | apply Kd.V_drew)); exact HO_330002.out⟩, ⟨by (with_reducible repeat (first | apply Kd.V_alloc | apply Kd.V_drewN | apply Kd.V_drew)); exact HO_331001.out⟩, ⟨by (with_reducible repeat (first | refine blk_drewN ?_ _ | refine blk_drew ?_ | refine blk_alloc ?_ _)); exact BK292.out⟩, ⟨by (with_reducible repeat (first | refine blk_drewN ?_ _ | refine blk_drew ?_ | refine blk_alloc ?_ _)); exact BK293.out⟩, ⟨by (with_reducible repeat (first | refine blk_drewN ?_ _ | refine blk_drew ?_ | refine blk_alloc ?_ _)); exact BK307.out⟩, ⟨by (with_reducible repeat (first | refine blk_drewN ?_ _ | refine blk_drew ?_ | refine blk_alloc ?_ _)); exact BK316.out⟩, ⟨by (with_reducible repeat (first | refine blk_drewN ?_ _ | refine blk_drew ?_ | refine blk_alloc ?_ _)); exact BK329.out⟩, ⟨by (with_reducible repeat (first | refine blk_drewN ?_ _ | refine blk_drew ?_ | refine blk_alloc ?_ _)); exact BK330.out⟩, ⟨by repeat (first | (with_reducible first | exact HB.out | apply below_alloc | apply pw_below_drewN | apply below_drew1 | refine below_set ?_ GE292.out | refine below_set ?_ GE293.out | refine below_set ?_ GE307.out | refine below_set ?_ GE316.out | refine below_set ?_ GE329.out | refine below_set ?_ GE330.out) | exact HB.out)⟩⟩
                · rw [if_neg c89] at H
                  have c89b0 : ((t328 == 0) != x15_37) = false := by simpa using c89
                  (try (have c89b1 : decide ((t328 == 0) = x15_37) = true := by simpa using c89))
                  (try (have c89b2 : ((t328 == 0) == x15_37) = true := by simpa using c89))
                  clear c89
                  by_cases c90 : x15_37 = true
                  · subst c90
                    have H1 : (chamberlainlaw06_NetRoom.j2 kj37 t298 t306 t315 t328 ((t315 == 0) != (decide (t298 > 0))) a0_0 l0_1 l0_2 t299 t300 t303 t308 t309 t312 t317 t318 t321 t324 t325) = some r := by rw [if_pos rfl] at H; exact H
                    clear H
                    have H := H1
                    clear H1
                    have H' := Aside0.mk H
                    clear H
                    go_wp2
                    go_meet
                    case rel => exact ⟨_, (((t315 == 0) != (decide (t298 > 0)))), (by first | rfl | (simp; done) | (simp [*]; done)), H', ⟨by have := HJ3.out; have := HJ37.out; first | omega | exact Nat.le_refl _⟩, ⟨by (with_reducible repeat (first | apply Kd.V_alloc | apply Kd.V_drewN | apply Kd.V_drew)); exact HO_308001.out⟩, ⟨by (with_reducible repeat (first | apply Kd.V_alloc | apply Kd.V_drewN | apply Kd.V_drew)); exact HO_308002.out⟩, ⟨by (with_reducible repeat (first | apply Kd.V_alloc | apply Kd.V_drewN | apply Kd.V_drew)); exact HO_317001.out⟩, ⟨by (with_reducible repeat (first | apply Kd.V_alloc | apply Kd.V_drewN | apply Kd.V_drew)); exact HO_317002.out⟩, ⟨by (with_reducible repeat (first | apply Kd.V_alloc | apply Kd.V_drewN | apply Kd.V_drew)); exact HO_330001.out⟩, ⟨by (with_reducible repeat (first | apply Kd.V_alloc | apply Kd.V_drewN | apply Kd.V_drew)); exact HO_330002.out⟩, ⟨by (with_reducible repeat (first | apply Kd.V_alloc | apply Kd.V_drewN | apply Kd.V_drew)); exact HO_331001.out⟩, ⟨by (with_reducible repeat (first | refine blk_drewN ?_ _ | refine blk_drew ?_ | refine blk_alloc ?_ _)); exact BK292.out⟩, ⟨by (with_reducible repeat (first | refine blk_drewN ?_ _ | refine blk_drew ?_ | refine blk_alloc ?_ _)); exact BK293.out⟩, ⟨by (with_reducible repeat (first | refine blk_drewN ?_ _ | refine blk_drew ?_ | refine blk_alloc ?_ _)); exact BK307.out⟩, ⟨by (with_reducible repeat (first | refine blk_drewN ?_ _ | refine blk_drew ?_ | refine blk_alloc ?_ _)); exact BK316.out⟩, ⟨by (with_reducible repeat (first | refine blk_drewN ?_ _ | refine blk_drew ?_ | refine blk_alloc ?_ _)); exact BK329.out⟩, ⟨by (with_reducible repeat (first | refine blk_drewN ?_ _ | refine blk_drew ?_ | refine blk_alloc ?_ _)); exact BK330.out⟩, ⟨by repeat (first | (with_reducible first | exact HB.out | apply below_alloc | apply pw_below_drewN | apply below_drew1 | refine below_set ?_ GE292.out | refine below_set ?_ GE293.out | refine below_set ?_ GE307.out | refine below_set ?_ GE316.out | refine below_set ?_ GE329.out | refine below_set ?_ GE330.out) | exact HB.out)⟩⟩
                  · replace c90 := Bool.eq_false_iff.mpr c90
                    subst c90
                    have H1 : (chamberlainlaw06_NetRoom.j2 kj37 t298 t306 t315 t328 ((t315 == 0) != false) a0_0 l0_1 l0_2 t299 t300 t303 t308 t309 t312 t317 t318 t321 t324 t325) = some r := by rw [if_neg (show ¬ (false = true) by decide)] at H; exact H
                    clear H
                    have H := H1
                    clear H1
                    have H' := Aside0.mk H
                    clear H
                    go_wp2
                    go_meet
                    case rel => exact ⟨_, (((t315 == 0) != false)), (by first | rfl | (simp; done) | (simp [*]; done)), H', ⟨by have := HJ3.out; have := HJ37.out; first | omega | exact Nat.le_refl _⟩, ⟨by (with_reducible repeat (first | apply Kd.V_alloc | apply Kd.V_drewN | apply Kd.V_drew)); exact HO_308001.out⟩, ⟨by (with_reducible repeat (first | apply Kd.V_alloc | apply Kd.V_drewN | apply Kd.V_drew)); exact HO_308002.out⟩, ⟨by (with_reducible repeat (first | apply Kd.V_alloc | apply Kd.V_drewN | apply Kd.V_drew)); exact HO_317001.out⟩, ⟨by (with_reducible repeat (first | apply Kd.V_alloc | apply Kd.V_drewN | apply Kd.V_drew)); exact HO_317002.out⟩, ⟨by (with_reducible repeat (first | apply Kd.V_alloc | apply Kd.V_drewN | apply Kd.V_drew)); exact HO_330001.out⟩, ⟨by (with_reducible repeat (first | apply Kd.V_alloc | apply Kd.V_drewN | apply Kd.V_drew)); exact HO_330002.out⟩, ⟨by (with_reducible repeat (first | apply Kd.V_alloc | apply Kd.V_drewN | apply Kd.V_drew)); exact HO_331001.out⟩, ⟨by (with_reducible repeat (first | refine blk_drewN ?_ _ | refine blk_drew ?_ | refine blk_alloc ?_ _)); exact BK292.out⟩, ⟨by (with_reducible repeat (first | refine blk_drewN ?_ _ | refine blk_drew ?_ | refine blk_alloc ?_ _)); exact BK293.out⟩, ⟨by (with_reducible repeat (first | refine blk_drewN ?_ _ | refine blk_drew ?_ | refine blk_alloc ?_ _)); exact BK307.out⟩, ⟨by (with_reducible repeat (first | refine blk_drewN ?_ _ | refine blk_drew ?_ | refine blk_alloc ?_ _)); exact BK316.out⟩, ⟨by (with_reducible repeat (first | refine blk_drewN ?_ _ | refine blk_drew ?_ | refine blk_alloc ?_ _)); exact BK329.out⟩, ⟨by (with_reducible repeat (first | refine blk_drewN ?_ _ | refine blk_drew ?_ | refine blk_alloc ?_ _)); exact BK330.out⟩, ⟨by repeat (first | (with_reducible first | exact HB.out | apply below_alloc | apply pw_below_drewN | apply below_drew1 | refine below_set ?_ GE292.out | refine below_set ?_ GE293.out | refine below_set ?_ GE307.out | refine below_set ?_ GE316.out | refine below_set ?_ GE329.out | refine below_set ?_ GE330.out) | exact HB.out)⟩⟩
            case rest =>
              clear HC87
              try clear c1
              try clear c2
              try clear p2
              try clear c3
              try clear c4
              try clear c5
              try clear c6
              try clear c7
              try clear c8
              try clear c9
              try clear c10
              try clear c12
              try clear c14
              try clear c16
              try clear c20
              try clear c21
              try clear c27
              try clear c31
              try clear c39
              try clear c46
              try clear c47
              try clear c55
              try clear c56
              try clear c57
              try clear c66
              try clear c67
              try clear c68
              try clear c69
              try clear c70
              try clear c74
              try clear c75
              try clear c76
              try clear c77
              try clear c80
              try clear c80b0
              try clear c81
              try clear c82
              try clear c83
              try clear c84
              try clear c85
              try clear c88
              try clear c88b0
              try clear c88b1
              try clear c88b2
              try clear c89
              try clear c89b0
              try clear c89b1
              try clear c89b2
              try clear c90
              try clear hcz15_0
              try clear hcz15_1
              try clear hcz15_2
              try clear hcz17_0
              try clear hcz17_1
              try clear hcz17_2
              try clear hcz19_0
              try clear hcz19_1
              try clear hcz22_0
              try clear hcz22_1
              try clear hcz22_2
              try clear hcz24_0
              try clear hcz24_1
              try clear hcz24_2
              try clear hcz28_0
              try clear hcz28_1
              try clear hcz28_2
              try clear hcz40_0
              try clear hcz40_1
              try clear hcz40_2
              try clear hcz42_0
              try clear hcz42_1
              try clear hcz42_2
              try clear hcz43_0
              try clear hcz43_1
              try clear hcz48_0
              try clear hcz48_1
              try clear hcz48_2
              try clear hcz52_0
              try clear hcz52_1
              try clear hcz52_2
              try clear hcz58_0
              try clear hcz58_1
              try clear hcz58_2
              try clear hcz62_0
              try clear hcz62_1
              try clear hcz62_2
              try clear hcz71_0
              try clear hcz71_1
              try clear hcz71_2
              try clear hcz78_0
              try clear hcz78_1
              try clear hcz86_0
              try clear hcz86_1
              try clear hcz86_2
              try clear hfz15_0
              try clear hfz15_1
              try clear hfz15_2
              try clear hfz17_0
              try clear hfz17_1
              try clear hfz17_2
              try clear hfz19_0
              try clear hfz19_1
              try clear hfz22_0
              try clear hfz22_1
              try clear hfz22_2
              try clear hfz24_0
              try clear hfz24_1
              try clear hfz24_2
              try clear hfz28_0
              try clear hfz28_1
              try clear hfz28_2
              try clear hfz40_0
              try clear hfz40_1
              try clear hfz40_2
              try clear hfz42_0
              try clear hfz42_1
              try clear hfz42_2
              try clear hfz43_0
              try clear hfz43_1
              try clear hfz48_0
              try clear hfz48_1
              try clear hfz48_2
              try clear hfz52_0
              try clear hfz52_1
              try clear hfz52_2
              try clear hfz58_0
              try clear hfz58_1
              try clear hfz58_2
              try clear hfz62_0
              try clear hfz62_1
              try clear hfz62_2
              try clear hfz71_0
              try clear hfz71_1
              try clear hfz71_2
              try clear hfz78_0
              try clear hfz78_1
              try clear hfz86_0
              try clear hfz86_1
              try clear hfz86_2
              try clear p2
              obtain ⟨kq, x88_86, rfl, HA, HJ86, HO_308001, HO_308002, HO_317001, HO_317002, HO_330001, HO_330002, HO_331001, BK292, BK293, BK307, BK316, BK329, BK330, HB⟩ := hcut
              cases kq with
              | zero => exact absurd HA.out (by simp [chamberlainlaw06_NetRoom.j2])
              | succ kj86 =>
                have H := HA.out
                clear HA
                simp only [chamberlainlaw06_NetRoom.j2] at H
                by_cases c91 : x88_86 = true
                · subst c91
                  have H1 : (some false) = some r := by rw [if_pos rfl] at H; exact H
                  clear H
                  have H := H1
                  clear H1
                  exact absurd (hT.out.symm.trans (Option.some.inj H).symm) (by decide)
                · replace c91 := Bool.eq_false_iff.mpr c91
                  subst c91
                  have H1 : (if t306 = 0 then ((net_Free.f t299 t300 t303).bind fun t331 => (if t331 = (wrap64 (t298 - 1)) then (if t328 = 0 then ((net_Free.f t317 t318 t321).bind fun t332 => (if t332 = (wrap64 (t298 + 1)) then (if t315 = 0 then ((net_Free.f t308 t309 t312).bind fun t333 => (chamberlainlaw06_NetRoom.j3 kj86 t315 (t333 != (wrap64 (t298 - 1))) a0_0 l0_1 l0_2 t308 t309 t312 t324 t325)) else (chamberlainlaw06_NetRoom.j3 kj86 t315 false a0_0 l0_1 l0_2 t308 t309 t312 t324 t325)) else (chamberlainlaw06_NetRoom.j3 kj86 t315 true a0_0 l0_1 l0_2 t308 t309 t312 t324 t325))) else (if t315 = 0 then ((net_Free.f t308 t309 t312).bind fun t334 => (chamberlainlaw06_NetRoom.j3 kj86 t315 (t334 != (wrap64 (t298 - 1))) a0_0 l0_1 l0_2 t308 t309 t312 t324 t325)) else (chamberlainlaw06_NetRoom.j3 kj86 t315 false a0_0 l0_1 l0_2 t308 t309 t312 t324 t325))) else (chamberlainlaw06_NetRoom.j3 kj86 t315 true a0_0 l0_1 l0_2 t308 t309 t312 t324 t325))) else (if t328 = 0 then ((net_Free.f t317 t318 t321).bind fun t335 => (if t335 = (wrap64 (t298 + 1)) then (if t315 = 0 then ((net_Free.f t308 t309 t312).bind fun t336 => (chamberlainlaw06_NetRoom.j3 kj86 t315 (t336 != (wrap64 (t298 - 1))) a0_0 l0_1 l0_2 t308 t309 t312 t324 t325)) else (chamberlainlaw06_NetRoom.j3 kj86 t315 false a0_0 l0_1 l0_2 t308 t309 t312 t324 t325)) else (chamberlainlaw06_NetRoom.j3 kj86 t315 true a0_0 l0_1 l0_2 t308 t309 t312 t324 t325))) else (if t315 = 0 then ((net_Free.f t308 t309 t312).bind fun t337 => (chamberlainlaw06_NetRoom.j3 kj86 t315 (t337 != (wrap64 (t298 - 1))) a0_0 l0_1 l0_2 t308 t309 t312 t324 t325)) else (chamberlainlaw06_NetRoom.j3 kj86 t315 false a0_0 l0_1 l0_2 t308 t309 t312 t324 t325)))) = some r := by rw [if_neg (show ¬ (false = true) by decide)] at H; exact H
                  clear H
                  have H := H1
                  clear H1
                  have HC92 := Aside0.mk H
                  clear H
                  go_upto_region 10 with (fail)
                  go_cut [119] (fun v119 wc => ∃ (kq : Nat) (x119_91 : Bool), v119 = .bool x119_91 ∧ Aside0 (chamberlainlaw06_NetRoom.j3 kq t315 x119_91 a0_0 l0_1 l0_2 t308 t309 t312 t324 t325 = some r) ∧ Aside0 (kq ≤ kj86) ∧ Aside0 (Kd.V k29 29 wc w.heap.size (fun k_ => k_ ≠ gb292 ∧ k_ ≠ gb293 ∧ k_ ≠ gb307 ∧ k_ ≠ gb316 ∧ k_ ≠ gb329 ∧ k_ ≠ gb330) (.slice Ao49 t300.length co49) t300) ∧ Aside0 (Kd.V (Kd.slice 26 (Kd.int .u32)) 27 wc w.heap.size (fun k_ => k_ ≠ gb292 ∧ k_ ≠ gb293 ∧ k_ ≠ gb307 ∧ k_ ≠ gb316 ∧ k_ ≠ gb329 ∧ k_ ≠ gb330) (.slice Ao50 t303.length co50) t303) ∧ Aside0 (Kd.V k29 29 wc w.heap.size (fun k_ => k_ ≠ gb292 ∧ k_ ≠ gb293 ∧ k_ ≠ gb307 ∧ k_ ≠ gb316 ∧ k_ ≠ gb329 ∧ k_ ≠ gb330) (.slice Ao59 t309.length co59) t309) ∧ Aside0 (Kd.V (Kd.slice 26 (Kd.int .u32)) 27 wc w.heap.size (fun k_ => k_ ≠ gb292 ∧ k_ ≠ gb293 ∧ k_ ≠ gb307 ∧ k_ ≠ gb316 ∧ k_ ≠ gb329 ∧ k_ ≠ gb330) (.slice Ao60 t312.length co60) t312) ∧ Aside0 (Kd.V k29 29 wc w.heap.size (fun k_ => k_ ≠ gb292 ∧ k_ ≠ gb293 ∧ k_ ≠ gb307 ∧ k_ ≠ gb316 ∧ k_ ≠ gb329 ∧ k_ ≠ gb330) (.slice Ao72 t318.length co72) t318) ∧ Aside0 (Kd.V (Kd.slice 26 (Kd.int .u32)) 27 wc w.heap.size (fun k_ => k_ ≠ gb292 ∧ k_ ≠ gb293 ∧ k_ ≠ gb307 ∧ k_ ≠ gb316 ∧ k_ ≠ gb329 ∧ k_ ≠ gb330) (.slice Ao73 t321.length co73) t321) ∧ Aside0 (Kd.V (Kd.int .u32) 26 wc w.heap.size (fun k_ => k_ ≠ gb292 ∧ k_ ≠ gb293 ∧ k_ ≠ gb307 ∧ k_ ≠ gb316 ∧ k_ ≠ gb329 ∧ k_ ≠ gb330) (.slice Ao79 t325.length co79) t325) ∧ Aside0 (wc.heap[gb292]? = some (.cells #[.int .i64 a0_0, (.slice A0_1 l0_1.length c0_1), (.slice A0_2 l0_2.length c0_2)] 25 (0, 0))) ∧ Aside0 (wc.heap[gb293]? = some (.cells #[.int .u32 a1_0, (.slice A1_1 l1_1.length c1_1)] 29 (0, 0))) ∧ Aside0 (wc.heap[gb307]? = some (.cells #[.int .i64 t299, (.slice Ao49 t300.length co49), (.slice Ao50 t303.length co50)] 25 (0, 0))) ∧ Aside0 (wc.heap[gb316]? = some (.cells #[.int .i64 t308, (.slice Ao59 t309.length co59), (.slice Ao60 t312.length co60)] 25 (0, 0))) ∧ Aside0 (wc.heap[gb329]? = some (.cells #[.int .i64 t317, (.slice Ao72 t318.length co72), (.slice Ao73 t321.length co73)] 25 (0, 0))) ∧ Aside0 (wc.heap[gb330]? = some (.cells #[.int .u32 t324, (.slice Ao79 t325.length co79)] 29 (0, 0))) ∧ Aside0 (Below w.heap.size w wc))
                  case first =>
                    have H := HC92.out
                    clear HC92
                    by_cases c93 : t306 = 0
                    · rw [if_pos c93] at H
                      have c93b0 : (t306 == 0) = true := beq_iff_eq.mpr c93
                      have c93b1 : (t306 != 0) = false := bne_eq_false_iff_eq.mpr c93
                      clear c93
                      (first | rw [c93b0] | (simp only [i64_w, i32_w]; rw [c93b0]) | skip)
                      replace H := Option.bind_eq_some_iff.mp H
                      obtain ⟨t331, A940, H⟩ := H
                      replace H : (if t331 = (wrap64 (t298 - 1)) then (if t328 = 0 then ((net_Free.f t317 t318 t321).bind fun t332 => (if t332 = (wrap64 (t298 + 1)) then (if t315 = 0 then ((net_Free.f t308 t309 t312).bind fun t333 => (chamberlainlaw06_NetRoom.j3 kj86 t315 (t333 != (wrap64 (t298 - 1))) a0_0 l0_1 l0_2 t308 t309 t312 t324 t325)) else (chamberlainlaw06_NetRoom.j3 kj86 t315 false a0_0 l0_1 l0_2 t308 t309 t312 t324 t325)) else (chamberlainlaw06_NetRoom.j3 kj86 t315 true a0_0 l0_1 l0_2 t308 t309 t312 t324 t325))) else (if t315 = 0 then ((net_Free.f t308 t309 t312).bind fun t334 => (chamberlainlaw06_NetRoom.j3 kj86 t315 (t334 != (wrap64 (t298 - 1))) a0_0 l0_1 l0_2 t308 t309 t312 t324 t325)) else (chamberlainlaw06_NetRoom.j3 kj86 t315 false a0_0 l0_1 l0_2 t308 t309 t312 t324 t325))) else (chamberlainlaw06_NetRoom.j3 kj86 t315 true a0_0 l0_1 l0_2 t308 t309 t312 t324 t325)) = some r := H
                      have A94 := Aside0.mk A940
                      clear A940
                      by_cases c95 : t331 = (wrap64 (t298 - 1))
                      · rw [if_pos c95] at H
                        have c95b0 : (t331 == (wrap64 (t298 - 1))) = true := beq_iff_eq.mpr c95
                        have c95b1 : (t331 != (wrap64 (t298 - 1))) = false := bne_eq_false_iff_eq.mpr c95
                        clear c95
                        by_cases c96 : t328 = 0
                        · rw [if_pos c96] at H
                          have c96b0 : (t328 == 0) = true := beq_iff_eq.mpr c96
                          have c96b1 : (t328 != 0) = false := bne_eq_false_iff_eq.mpr c96
                          clear c96
                          replace H := Option.bind_eq_some_iff.mp H
                          obtain ⟨t332, A970, H⟩ := H
                          replace H : (if t332 = (wrap64 (t298 + 1)) then (if t315 = 0 then ((net_Free.f t308 t309 t312).bind fun t333 => (chamberlainlaw06_NetRoom.j3 kj86 t315 (t333 != (wrap64 (t298 - 1))) a0_0 l0_1 l0_2 t308 t309 t312 t324 t325)) else (chamberlainlaw06_NetRoom.j3 kj86 t315 false a0_0 l0_1 l0_2 t308 t309 t312 t324 t325)) else (chamberlainlaw06_NetRoom.j3 kj86 t315 true a0_0 l0_1 l0_2 t308 t309 t312 t324 t325)) = some r := H
                          have A97 := Aside0.mk A970
                          clear A970
                          by_cases c98 : t332 = (wrap64 (t298 + 1))
                          · rw [if_pos c98] at H
                            have c98b0 : (t332 == (wrap64 (t298 + 1))) = true := beq_iff_eq.mpr c98
                            have c98b1 : (t332 != (wrap64 (t298 + 1))) = false := bne_eq_false_iff_eq.mpr c98
                            clear c98
                            by_cases c99 : t315 = 0
                            · rw [if_pos c99] at H
                              have c99b0 : (t315 == 0) = true := beq_iff_eq.mpr c99
                              have c99b1 : (t315 != 0) = false := bne_eq_false_iff_eq.mpr c99
                              clear c99
                              replace H := Option.bind_eq_some_iff.mp H
                              obtain ⟨t333, A1000, H⟩ := H
                              replace H : (chamberlainlaw06_NetRoom.j3 kj86 t315 (t333 != (wrap64 (t298 - 1))) a0_0 l0_1 l0_2 t308 t309 t312 t324 t325) = some r := H
                              have A100 := Aside0.mk A1000
                              clear A1000
                              have H' := Aside0.mk H
                              clear H
                              have hnb101 := NB307_292.out
                              have hnc101 := NB292_307.out
                              have hnb102 := NB307_293.out
                              have hnc102 := NB293_307.out
                              have hnb103 := NB307_316.out
                              have hnc103 := NB316_307.out
                              have hnb104 := NB307_329.out
                              have hnc104 := NB329_307.out
                              have hnb105 := NB307_330.out
                              have hnc105 := NB330_307.out
                              have ⟨hcz106_0, hcz106_1, hcz106_2⟩ := cz3_ BK307.out
                              have ⟨hfz106_0, hfz106_1, hfz106_2⟩ := fz3_ BK307.out
                              go_wp2_with (first | (go_at_call 20; (with_reducible refine (net_Free.calls t299 _ _ t300 _ _ t303 t331 _ ?side1 ?side2 ?side3 ?side4 A94.out).mono ?_); (case side1 => repeat (first | exact (Kd.V_reads' HO_308001.out).2.2 | (with_reducible refine Kd.C_alloc ?_ _) | (with_reducible refine Kd.C_drewN ?_ _) | (with_reducible refine Kd.C_drew ?_))); (case side2 => exact (Kd.V_reads' HO_308001.out).2.1); (case side3 => repeat (first | exact (Kd.V_reads' HO_308002.out).2.2 | (with_reducible refine Kd.C_alloc ?_ _) | (with_reducible refine Kd.C_drewN ?_ _) | (with_reducible refine Kd.C_drew ?_))); (case side4 => exact (Kd.V_reads' HO_308002.out).2.1); rintro e w107 ⟨rfl, hb⟩; have n0_ := Aside0.mk (vb_ HO_308001.out hb); have n1_ := Aside0.mk (vb_ HO_308002.out hb); have n2_ := Aside0.mk (vb_ HO_317001.out hb); have n3_ := Aside0.mk (vb_ HO_317002.out hb); have n4_ := Aside0.mk (vb_ HO_330001.out hb); have n5_ := Aside0.mk (vb_ HO_330002.out hb); have n6_ := Aside0.mk (vb_ HO_331001.out hb); have n7_ := Aside0.mk (bb_ BK292.out hb); have n8_ := Aside0.mk (bb_ BK293.out hb); have n9_ := Aside0.mk (bb_ BK307.out hb); have n10_ := Aside0.mk (bb_ BK316.out hb); have n11_ := Aside0.mk (bb_ BK329.out hb); have n12_ := Aside0.mk (bb_ BK330.out hb); have n13_ := Aside0.mk (bs_ hb); clear HO_308001 HO_308002 HO_317001 HO_317002 HO_330001 HO_330002 HO_331001 BK292 BK293 BK307 BK316 BK329 BK330 HB; have HO_308001 := n0_; have HO_308002 := n1_; have HO_317001 := n2_; have HO_317002 := n3_; have HO_330001 := n4_; have HO_330002 := n5_; have HO_331001 := n6_; have BK292 := n7_; have BK293 := n8_; have BK307 := n9_; have BK316 := n10_; have BK329 := n11_; have BK330 := n12_; have HB := n13_; clear n0_ n1_ n2_ n3_ n4_ n5_ n6_ n7_ n8_ n9_ n10_ n11_ n12_ n13_; (try clear hb); (try clear hb2); (try clear hk); (try clear hi); have hnb108 := NB329_292.out; have hnc108 := NB292_329.out; have hnb109 := NB329_293.out; have hnc109 := NB293_329.out; have hnb110 := NB329_316.out; have hnc110 := NB316_329.out; have hnb111 := NB329_330.out; have hnc111 := NB330_329.out; have ⟨hcz112_0, hcz112_1, hcz112_2⟩ := cz3_ BK329.out; have ⟨hfz112_0, hfz112_1, hfz112_2⟩ := fz3_ BK329.out) | (go_at_call 20; (with_reducible refine (net_Free.calls t317 _ _ t318 _ _ t321 t332 _ ?side1 ?side2 ?side3 ?side4 A97.out).mono ?_); (case side1 => repeat (first | exact (Kd.V_reads' HO_330001.out).2.2 | (with_reducible refine Kd.C_alloc ?_ _) | (with_reducible refine Kd.C_drewN ?_ _) | (with_reducible refine Kd.C_drew ?_))); (case side2 => exact (Kd.V_reads' HO_330001.out).2.1); (case side3 => repeat (first | exact (Kd.V_reads' HO_330002.out).2.2 | (with_reducible refine Kd.C_alloc ?_ _) | (with_reducible refine Kd.C_drewN ?_ _) | (with_reducible refine Kd.C_drew ?_))); (case side4 => exact (Kd.V_reads' HO_330002.out).2.1); rintro e w113 ⟨rfl, hb⟩; have n0_ := Aside0.mk (vb_ HO_308001.out hb); have n1_ := Aside0.mk (vb_ HO_308002.out hb); have n2_ := Aside0.mk (vb_ HO_317001.out hb); have n3_ := Aside0.mk (vb_ HO_317002.out hb); have n4_ := Aside0.mk (vb_ HO_330001.out hb); have n5_ := Aside0.mk (vb_ HO_330002.out hb); have n6_ := Aside0.mk (vb_ HO_331001.out hb); have n7_ := Aside0.mk (bb_ BK292.out hb); have n8_ := Aside0.mk (bb_ BK293.out hb); have n9_ := Aside0.mk (bb_ BK307.out hb); have n10_ := Aside0.mk (bb_ BK316.out hb); have n11_ := Aside0.mk (bb_ BK329.out hb); have n12_ := Aside0.mk (bb_ BK330.out hb); have n13_ := Aside0.mk (bs_ hb); clear HO_308001 HO_308002 HO_317001 HO_317002 HO_330001 HO_330002 HO_331001 BK292 BK293 BK307 BK316 BK329 BK330 HB; have HO_308001 := n0_; have HO_308002 := n1_; have HO_317001 := n2_; have HO_317002 := n3_; have HO_330001 := n4_; have HO_330002 := n5_; have HO_331001 := n6_; have BK292 := n7_; have BK293 := n8_; have BK307 := n9_; have BK316 := n10_; have BK329 := n11_; have BK330 := n12_; have HB := n13_; clear n0_ n1_ n2_ n3_ n4_ n5_ n6_ n7_ n8_ n9_ n10_ n11_ n12_ n13_; (try clear hb); (try clear hb2); (try clear hk); (try clear hi); have hnb114 := NB316_292.out; have hnc114 := NB292_316.out; have hnb115 := NB316_293.out; have hnc115 := NB293_316.out; have hnb116 := NB316_330.out; have hnc116 := NB330_316.out; have ⟨hcz117_0, hcz117_1, hcz117_2⟩ := cz3_ BK316.out; have ⟨hfz117_0, hfz117_1, hfz117_2⟩ := fz3_ BK316.out) | (go_at_call 20; (with_reducible refine (net_Free.calls t308 _ _ t309 _ _ t312 t333 _ ?side1 ?side2 ?side3 ?side4 A100.out).mono ?_); (case side1 => repeat (first | exact (Kd.V_reads' HO_317001.out).2.2 | (with_reducible refine Kd.C_alloc ?_ _) | (with_reducible refine Kd.C_drewN ?_ _) | (with_reducible refine Kd.C_drew ?_))); (case side2 => exact (Kd.V_reads' HO_317001.out).2.1); (case side3 => repeat (first | exact (Kd.V_reads' HO_317002.out).2.2 | (with_reducible refine Kd.C_alloc ?_ _) | (with_reducible refine Kd.C_drewN ?_ _) | (with_reducible refine Kd.C_drew ?_))); (case side4 => exact (Kd.V_reads' HO_317002.out).2.1); rintro e w118 ⟨rfl, hb⟩; have n0_ := Aside0.mk (vb_ HO_308001.out hb); have n1_ := Aside0.mk (vb_ HO_308002.out hb); have n2_ := Aside0.mk (vb_ HO_317001.out hb); have n3_ := Aside0.mk (vb_ HO_317002.out hb); have n4_ := Aside0.mk (vb_ HO_330001.out hb); have n5_ := Aside0.mk (vb_ HO_330002.out hb); have n6_ := Aside0.mk (vb_ HO_331001.out hb); have n7_ := Aside0.mk (bb_ BK292.out hb); have n8_ := Aside0.mk (bb_ BK293.out hb); have n9_ := Aside0.mk (bb_ BK307.out hb); have n10_ := Aside0.mk (bb_ BK316.out hb); have n11_ := Aside0.mk (bb_ BK329.out hb); have n12_ := Aside0.mk (bb_ BK330.out hb); have n13_ := Aside0.mk (bs_ hb); clear HO_308001 HO_308002 HO_317001 HO_317002 HO_330001 HO_330002 HO_331001 BK292 BK293 BK307 BK316 BK329 BK330 HB; have HO_308001 := n0_; have HO_308002 := n1_; have HO_317001 := n2_; have HO_317002 := n3_; have HO_330001 := n4_; have HO_330002 := n5_; have HO_331001 := n6_; have BK292 := n7_; have BK293 := n8_; have BK307 := n9_; have BK316 := n10_; have BK329 := n11_; have BK330 := n12_; have HB := n13_; clear n0_ n1_ n2_ n3_ n4_ n5_ n6_ n7_ n8_ n9_ n10_ n11_ n12_ n13_; (try clear hb); (try clear hb2); (try clear hk); (try clear hi)))
                              go_meet
                              case rel => exact ⟨_, ((t333 != (wrap64 (t298 - 1)))), (by first | rfl | (simp; done) | (simp [*]; done)), H', ⟨by have := HJ3.out; have := HJ37.out; have := HJ86.out; first | omega | exact Nat.le_refl _⟩, ⟨by (with_reducible repeat (first | apply Kd.V_alloc | apply Kd.V_drewN | apply Kd.V_drew)); exact HO_308001.out⟩, ⟨by (with_reducible repeat (first | apply Kd.V_alloc | apply Kd.V_drewN | apply Kd.V_drew)); exact HO_308002.out⟩, ⟨by (with_reducible repeat (first | apply Kd.V_alloc | apply Kd.V_drewN | apply Kd.V_drew)); exact HO_317001.out⟩, ⟨by (with_reducible repeat (first | apply Kd.V_alloc | apply Kd.V_drewN | apply Kd.V_drew)); exact HO_317002.out⟩, ⟨by (with_reducible repeat (first | apply Kd.V_alloc | apply Kd.V_drewN | apply Kd.V_drew)); exact HO_330001.out⟩, ⟨by (with_reducible repeat (first | apply Kd.V_alloc | apply Kd.V_drewN | apply Kd.V_drew)); exact HO_330002.out⟩, ⟨by (with_reducible repeat (first | apply Kd.V_alloc | apply Kd.V_drewN | apply Kd.V_drew)); exact HO_331001.out⟩, ⟨by (with_reducible repeat (first | refine blk_drewN ?_ _ | refine blk_drew ?_ | refine blk_alloc ?_ _)); exact BK292.out⟩, ⟨by (with_reducible repeat (first | refine blk_drewN ?_ _ | refine blk_drew ?_ | refine blk_alloc ?_ _)); exact BK293.out⟩, ⟨by (with_reducible repeat (first | refine blk_drewN ?_ _ | refine blk_drew ?_ | refine blk_alloc ?_ _)); exact BK307.out⟩, ⟨by (with_reducible repeat (first | refine blk_drewN ?_ _ | refine blk_drew ?_ | refine blk_alloc ?_ _)); exact BK316.out⟩, ⟨by (with_reducible repeat (first | refine blk_drewN ?_ _ | refine blk_drew ?_ | refine blk_alloc ?_ _)); exact BK329.out⟩, ⟨by (with_reducible repeat (first | refine blk_drewN ?_ _ | refine blk_drew ?_ | refine blk_alloc ?_ _)); exact BK330.out⟩, ⟨by repeat (first | (with_reducible first | exact HB.out | apply below_alloc | apply pw_below_drewN | apply below_drew1 | refine below_set ?_ GE292.out | refine below_set ?_ GE293.out | refine below_set ?_ GE307.out | refine below_set ?_ GE316.out | refine below_set ?_ GE329.out | refine below_set ?_ GE330.out) | exact HB.out)⟩⟩
                            · rw [if_neg c99] at H
                              have c99b0 : (t315 == 0) = false := beq_eq_false_iff_ne.mpr c99
                              have c99b1 : (t315 != 0) = true := bne_iff_ne.mpr c99
                              have H' := Aside0.mk H
                              clear H
                              have hnb119 := NB307_292.out
                              have hnc119 := NB292_307.out
                              have hnb120 := NB307_293.out
                              have hnc120 := NB293_307.out
                              have hnb121 := NB307_316.out
                              have hnc121 := NB316_307.out
                              have hnb122 := NB307_329.out
                              have hnc122 := NB329_307.out
                              have hnb123 := NB307_330.out
                              have hnc123 := NB330_307.out
                              have ⟨hcz124_0, hcz124_1, hcz124_2⟩ := cz3_ BK307.out
                              have ⟨hfz124_0, hfz124_1, hfz124_2⟩ := fz3_ BK307.out
                              go_wp2_with (first | (go_at_call 20; (with_reducible refine (net_Free.calls t299 _ _ t300 _ _ t303 t331 _ ?side1 ?side2 ?side3 ?side4 A94.out).mono ?_); (case side1 => repeat (first | exact (Kd.V_reads' HO_308001.out).2.2 | (with_reducible refine Kd.C_alloc ?_ _) | (with_reducible refine Kd.C_drewN ?_ _) | (with_reducible refine Kd.C_drew ?_))); (case side2 => exact (Kd.V_reads' HO_308001.out).2.1); (case side3 => repeat (first | exact (Kd.V_reads' HO_308002.out).2.2 | (with_reducible refine Kd.C_alloc ?_ _) | (with_reducible refine Kd.C_drewN ?_ _) | (with_reducible refine Kd.C_drew ?_))); (case side4 => exact (Kd.V_reads' HO_308002.out).2.1); rintro e w125 ⟨rfl, hb⟩; have n0_ := Aside0.mk (vb_ HO_308001.out hb); have n1_ := Aside0.mk (vb_ HO_308002.out hb); have n2_ := Aside0.mk (vb_ HO_317001.out hb); have n3_ := Aside0.mk (vb_ HO_317002.out hb); have n4_ := Aside0.mk (vb_ HO_330001.out hb); have n5_ := Aside0.mk (vb_ HO_330002.out hb); have n6_ := Aside0.mk (vb_ HO_331001.out hb); have n7_ := Aside0.mk (bb_ BK292.out hb); have n8_ := Aside0.mk (bb_ BK293.out hb); have n9_ := Aside0.mk (bb_ BK307.out hb); have n10_ := Aside0.mk (bb_ BK316.out hb); have n11_ := Aside0.mk (bb_ BK329.out hb); have n12_ := Aside0.mk (bb_ BK330.out hb); have n13_ := Aside0.mk (bs_ hb); clear HO_308001 HO_308002 HO_317001 HO_317002 HO_330001 HO_330002 HO_331001 BK292 BK293 BK307 BK316 BK329 BK330 HB; have HO_308001 := n0_; have HO_308002 := n1_; have HO_317001 := n2_; have HO_317002 := n3_; have HO_330001 := n4_; have HO_330002 := n5_; have HO_331001 := n6_; have BK292 := n7_; have BK293 := n8_; have BK307 := n9_; have BK316 := n10_; have BK329 := n11_; have BK330 := n12_; have HB := n13_; clear n0_ n1_ n2_ n3_ n4_ n5_ n6_ n7_ n8_ n9_ n10_ n11_ n12_ n13_; (try clear hb); (try clear hb2); (try clear hk); (try clear hi); have hnb126 := NB329_292.out; have hnc126 := NB292_329.out; have hnb127 := NB329_293.out; have hnc127 := NB293_329.out; have hnb128 := NB329_316.out; have hnc128 := NB316_329.out; have hnb129 := NB329_330.out; have hnc129 := NB330_329.out; have ⟨hcz130_0, hcz130_1, hcz130_2⟩ := cz3_ BK329.out; have ⟨hfz130_0, hfz130_1, hfz130_2⟩ := fz3_ BK329.out) | (go_at_call 20; (with_reducible refine (net_Free.calls t317 _ _ t318 _ _ t321 t332 _ ?side1 ?side2 ?side3 ?side4 A97.out).mono ?_); (case side1 => repeat (first | exact (Kd.V_reads' HO_330001.out).2.2 | (with_reducible refine Kd.C_alloc ?_ _) | (with_reducible refine Kd.C_drewN ?_ _) | (with_reducible refine Kd.C_drew ?_))); (case side2 => exact (Kd.V_reads' HO_330001.out).2.1); (case side3 => repeat (first | exact (Kd.V_reads' HO_330002.out).2.2 | (with_reducible refine Kd.C_alloc ?_ _) | (with_reducible refine Kd.C_drewN ?_ _) | (with_reducible refine Kd.C_drew ?_))); (case side4 => exact (Kd.V_reads' HO_330002.out).2.1); rintro e w131 ⟨rfl, hb⟩; have n0_ := Aside0.mk (vb_ HO_308001.out hb); have n1_ := Aside0.mk (vb_ HO_308002.out hb); have n2_ := Aside0.mk (vb_ HO_317001.out hb); have n3_ := Aside0.mk (vb_ HO_317002.out hb); have n4_ := Aside0.mk (vb_ HO_330001.out hb); have n5_ := Aside0.mk (vb_ HO_330002.out hb); have n6_ := Aside0.mk (vb_ HO_331001.out hb); have n7_ := Aside0.mk (bb_ BK292.out hb); have n8_ := Aside0.mk (bb_ BK293.out hb); have n9_ := Aside0.mk (bb_ BK307.out hb); have n10_ := Aside0.mk (bb_ BK316.out hb); have n11_ := Aside0.mk (bb_ BK329.out hb); have n12_ := Aside0.mk (bb_ BK330.out hb); have n13_ := Aside0.mk (bs_ hb); clear HO_308001 HO_308002 HO_317001 HO_317002 HO_330001 HO_330002 HO_331001 BK292 BK293 BK307 BK316 BK329 BK330 HB; have HO_308001 := n0_; have HO_308002 := n1_; have HO_317001 := n2_; have HO_317002 := n3_; have HO_330001 := n4_; have HO_330002 := n5_; have HO_331001 := n6_; have BK292 := n7_; have BK293 := n8_; have BK307 := n9_; have BK316 := n10_; have BK329 := n11_; have BK330 := n12_; have HB := n13_; clear n0_ n1_ n2_ n3_ n4_ n5_ n6_ n7_ n8_ n9_ n10_ n11_ n12_ n13_; (try clear hb); (try clear hb2); (try clear hk); (try clear hi)))
                              go_meet
                              case rel => exact ⟨_, (false), (by first | rfl | (simp; done) | (simp [*]; done)), H', ⟨by have := HJ3.out; have := HJ37.out; have := HJ86.out; first | omega | exact Nat.le_refl _⟩, ⟨by (with_reducible repeat (first | apply Kd.V_alloc | apply Kd.V_drewN | apply Kd.V_drew)); exact HO_308001.out⟩, ⟨by (with_reducible repeat (first | apply Kd.V_alloc | apply Kd.V_drewN | apply Kd.V_drew)); exact HO_308002.out⟩, ⟨by (with_reducible repeat (first | apply Kd.V_alloc | apply Kd.V_drewN | apply Kd.V_drew)); exact HO_317001.out⟩, ⟨by (with_reducible repeat (first | apply Kd.V_alloc | apply Kd.V_drewN | apply Kd.V_drew)); exact HO_317002.out⟩, ⟨by (with_reducible repeat (first | apply Kd.V_alloc | apply Kd.V_drewN | apply Kd.V_drew)); exact HO_330001.out⟩, ⟨by (with_reducible repeat (first | apply Kd.V_alloc | apply Kd.V_drewN | apply Kd.V_drew)); exact HO_330002.out⟩, ⟨by (with_reducible repeat (first | apply Kd.V_alloc | apply Kd.V_drewN | apply Kd.V_drew)); exact HO_331001.out⟩, ⟨by (with_reducible repeat (first | refine blk_drewN ?_ _ | refine blk_drew ?_ | refine blk_alloc ?_ _)); exact BK292.out⟩, ⟨by (with_reducible repeat (first | refine blk_drewN ?_ _ | refine blk_drew ?_ | refine blk_alloc ?_ _)); exact BK293.out⟩, ⟨by (with_reducible repeat (first | refine blk_drewN ?_ _ | refine blk_drew ?_ | refine blk_alloc ?_ _)); exact BK307.out⟩, ⟨by (with_reducible repeat (first | refine blk_drewN ?_ _ | refine blk_drew ?_ | refine blk_alloc ?_ _)); exact BK316.out⟩, ⟨by (with_reducible repeat (first | refine blk_drewN ?_ _ | refine blk_drew ?_ | refine blk_alloc ?_ _)); exact BK329.out⟩, ⟨by (with_reducible repeat (first | refine blk_drewN ?_ _ | refine blk_drew ?_ | refine blk_alloc ?_ _)); exact BK330.out⟩, ⟨by repeat (first | (with_reducible first | exact HB.out | apply below_alloc | apply pw_below_drewN | apply below_drew1 | refine below_set ?_ GE292.out | refine below_set ?_ GE293.out | refine below_set ?_ GE307.out | refine below_set ?_ GE316.out | refine below_set ?_ GE329.out | refine below_set ?_ GE330.out) | exact HB.out)⟩⟩
                          · rw [if_neg c98] at H
                            have c98b0 : (t332 == (wrap64 (t298 + 1))) = false := beq_eq_false_iff_ne.mpr c98
                            have c98b1 : (t332 != (wrap64 (t298 + 1))) = true := bne_iff_ne.mpr c98
                            have H' := Aside0.mk H
                            clear H
                            have hnb132 := NB307_292.out
                            have hnc132 := NB292_307.out
                            have hnb133 := NB307_293.out
                            have hnc133 := NB293_307.out
                            have hnb134 := NB307_316.out
                            have hnc134 := NB316_307.out
                            have hnb135 := NB307_329.out
                            have hnc135 := NB329_307.out
                            have hnb136 := NB307_330.out
                            have hnc136 := NB330_307.out
                            have ⟨hcz137_0, hcz137_1, hcz137_2⟩ := cz3_ BK307.out
                            have ⟨hfz137_0, hfz137_1, hfz137_2⟩ := fz3_ BK307.out
                            go_wp2_with (first | (go_at_call 20; (with_reducible refine (net_Free.calls t299 _ _ t300 _ _ t303 t331 _ ?side1 ?side2 ?side3 ?side4 A94.out).mono ?_); (case side1 => repeat (first | exact (Kd.V_reads' HO_308001.out).2.2 | (with_reducible refine Kd.C_alloc ?_ _) | (with_reducible refine Kd.C_drewN ?_ _) | (with_reducible refine Kd.C_drew ?_))); (case side2 => exact (Kd.V_reads' HO_308001.out).2.1); (case side3 => repeat (first | exact (Kd.V_reads' HO_308002.out).2.2 | (with_reducible refine Kd.C_alloc ?_ _) | (with_reducible refine Kd.C_drewN ?_ _) | (with_reducible refine Kd.C_drew ?_))); (case side4 => exact (Kd.V_reads' HO_308002.out).2.1); rintro e w138 ⟨rfl, hb⟩; have n0_ := Aside0.mk (vb_ HO_308001.out hb); have n1_ := Aside0.mk (vb_ HO_308002.out hb); have n2_ := Aside0.mk (vb_ HO_317001.out hb); have n3_ := Aside0.mk (vb_ HO_317002.out hb); have n4_ := Aside0.mk (vb_ HO_330001.out hb); have n5_ := Aside0.mk (vb_ HO_330002.out hb); have n6_ := Aside0.mk (vb_ HO_331001.out hb); have n7_ := Aside0.mk (bb_ BK292.out hb); have n8_ := Aside0.mk (bb_ BK293.out hb); have n9_ := Aside0.mk (bb_ BK307.out hb); have n10_ := Aside0.mk (bb_ BK316.out hb); have n11_ := Aside0.mk (bb_ BK329.out hb); have n12_ := Aside0.mk (bb_ BK330.out hb); have n13_ := Aside0.mk (bs_ hb); clear HO_308001 HO_308002 HO_317001 HO_317002 HO_330001 HO_330002 HO_331001 BK292 BK293 BK307 BK316 BK329 BK330 HB; have HO_308001 := n0_; have HO_308002 := n1_; have HO_317001 := n2_; have HO_317002 := n3_; have HO_330001 := n4_; have HO_330002 := n5_; have HO_331001 := n6_; have BK292 := n7_; have BK293 := n8_; have BK307 := n9_; have BK316 := n10_; have BK329 := n11_; have BK330 := n12_; have HB := n13_; clear n0_ n1_ n2_ n3_ n4_ n5_ n6_ n7_ n8_ n9_ n10_ n11_ n12_ n13_; (try clear hb); (try clear hb2); (try clear hk); (try clear hi); have hnb139 := NB329_292.out; have hnc139 := NB292_329.out; have hnb140 := NB329_293.out; have hnc140 := NB293_329.out; have hnb141 := NB329_316.out; have hnc141 := NB316_329.out; have hnb142 := NB329_330.out; have hnc142 := NB330_329.out; have ⟨hcz143_0, hcz143_1, hcz143_2⟩ := cz3_ BK329.out; have ⟨hfz143_0, hfz143_1, hfz143_2⟩ := fz3_ BK329.out) | (go_at_call 20; (with_reducible refine (net_Free.calls t317 _ _ t318 _ _ t321 t332 _ ?side1 ?side2 ?side3 ?side4 A97.out).mono ?_); (case side1 => repeat (first | exact (Kd.V_reads' HO_330001.out).2.2 | (with_reducible refine Kd.C_alloc ?_ _) | (with_reducible refine Kd.C_drewN ?_ _) | (with_reducible refine Kd.C_drew ?_))); (case side2 => exact (Kd.V_reads' HO_330001.out).2.1); (case side3 => repeat (first | exact (Kd.V_reads' HO_330002.out).2.2 | (with_reducible refine Kd.C_alloc ?_ _) | (with_reducible refine Kd.C_drewN ?_ _) | (with_reducible refine Kd.C_drew ?_))); (case side4 => exact (Kd.V_reads' HO_330002.out).2.1); rintro e w144 ⟨rfl, hb⟩; have n0_ := Aside0.mk (vb_ HO_308001.out hb); have n1_ := Aside0.mk (vb_ HO_308002.out hb); have n2_ := Aside0.mk (vb_ HO_317001.out hb); have n3_ := Aside0.mk (vb_ HO_317002.out hb); have n4_ := Aside0.mk (vb_ HO_330001.out hb); have n5_ := Aside0.mk (vb_ HO_330002.out hb); have n6_ := Aside0.mk (vb_ HO_331001.out hb); have n7_ := Aside0.mk (bb_ BK292.out hb); have n8_ := Aside0.mk (bb_ BK293.out hb); have n9_ := Aside0.mk (bb_ BK307.out hb); have n10_ := Aside0.mk (bb_ BK316.out hb); have n11_ := Aside0.mk (bb_ BK329.out hb); have n12_ := Aside0.mk (bb_ BK330.out hb); have n13_ := Aside0.mk (bs_ hb); clear HO_308001 HO_308002 HO_317001 HO_317002 HO_330001 HO_330002 HO_331001 BK292 BK293 BK307 BK316 BK329 BK330 HB; have HO_308001 := n0_; have HO_308002 := n1_; have HO_317001 := n2_; have HO_317002 := n3_; have HO_330001 := n4_; have HO_330002 := n5_; have HO_331001 := n6_; have BK292 := n7_; have BK293 := n8_; have BK307 := n9_; have BK316 := n10_; have BK329 := n11_; have BK330 := n12_; have HB := n13_; clear n0_ n1_ n2_ n3_ n4_ n5_ n6_ n7_ n8_ n9_ n10_ n11_ n12_ n13_; (try clear hb); (try clear hb2); (try clear hk); (try clear hi)))
                            go_meet
                            case rel => exact ⟨_, (true), (by first | rfl | (simp; done) | (simp [*]; done)), H', ⟨by have := HJ3.out; have := HJ37.out; have := HJ86.out; first | omega | exact Nat.le_refl _⟩, ⟨by (with_reducible repeat (first | apply Kd.V_alloc | apply Kd.V_drewN | apply Kd.V_drew)); exact HO_308001.out⟩, ⟨by (with_reducible repeat (first | apply Kd.V_alloc | apply Kd.V_drewN | apply Kd.V_drew)); exact HO_308002.out⟩, ⟨by (with_reducible repeat (first | apply Kd.V_alloc | apply Kd.V_drewN | apply Kd.V_drew)); exact HO_317001.out⟩, ⟨by (with_reducible repeat (first | apply Kd.V_alloc | apply Kd.V_drewN | apply Kd.V_drew)); exact HO_317002.out⟩, ⟨by (with_reducible repeat (first | apply Kd.V_alloc | apply Kd.V_drewN | apply Kd.V_drew)); exact HO_330001.out⟩, ⟨by (with_reducible repeat (first | apply Kd.V_alloc | apply Kd.V_drewN | apply Kd.V_drew)); exact HO_330002.out⟩, ⟨by (with_reducible repeat (first | apply Kd.V_alloc | apply Kd.V_drewN | apply Kd.V_drew)); exact HO_331001.out⟩, ⟨by (with_reducible repeat (first | refine blk_drewN ?_ _ | refine blk_drew ?_ | refine blk_alloc ?_ _)); exact BK292.out⟩, ⟨by (with_reducible repeat (first | refine blk_drewN ?_ _ | refine blk_drew ?_ | refine blk_alloc ?_ _)); exact BK293.out⟩, ⟨by (with_reducible repeat (first | refine blk_drewN ?_ _ | refine blk_drew ?_ | refine blk_alloc ?_ _)); exact BK307.out⟩, ⟨by (with_reducible repeat (first | refine blk_drewN ?_ _ | refine blk_drew ?_ | refine blk_alloc ?_ _)); exact BK316.out⟩, ⟨by (with_reducible repeat (first | refine blk_drewN ?_ _ | refine blk_drew ?_ | refine blk_alloc ?_ _)); exact BK329.out⟩, ⟨by (with_reducible repeat (first | refine blk_drewN ?_ _ | refine blk_drew ?_ | refine blk_alloc ?_ _)); exact BK330.out⟩, ⟨by repeat (first | (with_reducible first | exact HB.out | apply below_alloc | apply pw_below_drewN | apply below_drew1 | refine below_set ?_ GE292.out | refine below_set ?_ GE293.out | refine below_set ?_ GE307.out | refine below_set ?_ GE316.out | refine below_set ?_ GE329.out | refine below_set ?_ GE330.out) | exact HB.out)⟩⟩
                        · rw [if_neg c96] at H
                          have c96b0 : (t328 == 0) = false := beq_eq_false_iff_ne.mpr c96
                          have c96b1 : (t328 != 0) = true := bne_iff_ne.mpr c96
                          by_cases c145 : t315 = 0
                          · rw [if_pos c145] at H
                            have c145b0 : (t315 == 0) = true := beq_iff_eq.mpr c145
                            have c145b1 : (t315 != 0) = false := bne_eq_false_iff_eq.mpr c145
                            clear c145
                            replace H := Option.bind_eq_some_iff.mp H
                            obtain ⟨t334, A1460, H⟩ := H
                            replace H : (chamberlainlaw06_NetRoom.j3 kj86 t315 (t334 != (wrap64 (t298 - 1))) a0_0 l0_1 l0_2 t308 t309 t312 t324 t325) = some r := H
                            have A146 := Aside0.mk A1460
                            clear A1460
                            have H' := Aside0.mk H
                            clear H
                            have hnb147 := NB307_292.out
                            have hnc147 := NB292_307.out
                            have hnb148 := NB307_293.out
                            have hnc148 := NB293_307.out
                            have hnb149 := NB307_316.out
                            have hnc149 := NB316_307.out
                            have hnb150 := NB307_329.out
                            have hnc150 := NB329_307.out
                            have hnb151 := NB307_330.out
                            have hnc151 := NB330_307.out
                            have ⟨hcz152_0, hcz152_1, hcz152_2⟩ := cz3_ BK307.out
                            have ⟨hfz152_0, hfz152_1, hfz152_2⟩ := fz3_ BK307.out
                            go_wp2_with (first | (go_at_call 20; (with_reducible refine (net_Free.calls t299 _ _ t300 _ _ t303 t331 _ ?side1 ?side2 ?side3 ?side4 A94.out).mono ?_); (case side1 => repeat (first | exact (Kd.V_reads' HO_308001.out).2.2 | (with_reducible refine Kd.C_alloc ?_ _) | (with_reducible refine Kd.C_drewN ?_ _) | (with_reducible refine Kd.C_drew ?_))); (case side2 => exact (Kd.V_reads' HO_308001.out).2.1); (case side3 => repeat (first | exact (Kd.V_reads' HO_308002.out).2.2 | (with_reducible refine Kd.C_alloc ?_ _) | (with_reducible refine Kd.C_drewN ?_ _) | (with_reducible refine Kd.C_drew ?_))); (case side4 => exact (Kd.V_reads' HO_308002.out).2.1); rintro e w153 ⟨rfl, hb⟩; have n0_ := Aside0.mk (vb_ HO_308001.out hb); have n1_ := Aside0.mk (vb_ HO_308002.out hb); have n2_ := Aside0.mk (vb_ HO_317001.out hb); have n3_ := Aside0.mk (vb_ HO_317002.out hb); have n4_ := Aside0.mk (vb_ HO_330001.out hb); have n5_ := Aside0.mk (vb_ HO_330002.out hb); have n6_ := Aside0.mk (vb_ HO_331001.out hb); have n7_ := Aside0.mk (bb_ BK292.out hb); have n8_ := Aside0.mk (bb_ BK293.out hb); have n9_ := Aside0.mk (bb_ BK307.out hb); have n10_ := Aside0.mk (bb_ BK316.out hb); have n11_ := Aside0.mk (bb_ BK329.out hb); have n12_ := Aside0.mk (bb_ BK330.out hb); have n13_ := Aside0.mk (bs_ hb); clear HO_308001 HO_308002 HO_317001 HO_317002 HO_330001 HO_330002 HO_331001 BK292 BK293 BK307 BK316 BK329 BK330 HB; have HO_308001 := n0_; have HO_308002 := n1_; have HO_317001 := n2_; have HO_317002 := n3_; have HO_330001 := n4_; have HO_330002 := n5_; have HO_331001 := n6_; have BK292 := n7_; have BK293 := n8_; have BK307 := n9_; have BK316 := n10_; have BK329 := n11_; have BK330 := n12_; have HB := n13_; clear n0_ n1_ n2_ n3_ n4_ n5_ n6_ n7_ n8_ n9_ n10_ n11_ n12_ n13_; (try clear hb); (try clear hb2); (try clear hk); (try clear hi); have hnb154 := NB316_292.out; have hnc154 := NB292_316.out; have hnb155 := NB316_293.out; have hnc155 := NB293_316.out; have hnb156 := NB316_329.out; have hnc156 := NB329_316.out; have hnb157 := NB316_330.out; have hnc157 := NB330_316.out; have ⟨hcz158_0, hcz158_1, hcz158_2⟩ := cz3_ BK316.out; have ⟨hfz158_0, hfz158_1, hfz158_2⟩ := fz3_ BK316.out) | (go_at_call 20; (with_reducible refine (net_Free.calls t308 _ _ t309 _ _ t312 t334 _ ?side1 ?side2 ?side3 ?side4 A146.out).mono ?_); (case side1 => repeat (first | exact (Kd.V_reads' HO_317001.out).2.2 | (with_reducible refine Kd.C_alloc ?_ _) | (with_reducible refine Kd.C_drewN ?_ _) | (with_reducible refine Kd.C_drew ?_))); (case side2 => exact (Kd.V_reads' HO_317001.out).2.1); (case side3 => repeat (first | exact (Kd.V_reads' HO_317002.out).2.2 | (with_reducible refine Kd.C_alloc ?_ _) | (with_reducible refine Kd.C_drewN ?_ _) | (with_reducible refine Kd.C_drew ?_))); (case side4 => exact (Kd.V_reads' HO_317002.out).2.1); rintro e w159 ⟨rfl, hb⟩; have n0_ := Aside0.mk (vb_ HO_308001.out hb); have n1_ := Aside0.mk (vb_ HO_308002.out hb); have n2_ := Aside0.mk (vb_ HO_317001.out hb); have n3_ := Aside0.mk (vb_ HO_317002.out hb); have n4_ := Aside0.mk (vb_ HO_330001.out hb); have n5_ := Aside0.mk (vb_ HO_330002.out hb); have n6_ := Aside0.mk (vb_ HO_331001.out hb); have n7_ := Aside0.mk (bb_ BK292.out hb); have n8_ := Aside0.mk (bb_ BK293.out hb); have n9_ := Aside0.mk (bb_ BK307.out hb); have n10_ := Aside0.mk (bb_ BK316.out hb); have n11_ := Aside0.mk (bb_ BK329.out hb); have n12_ := Aside0.mk (bb_ BK330.out hb); have n13_ := Aside0.mk (bs_ hb); clear HO_308001 HO_308002 HO_317001 HO_317002 HO_330001 HO_330002 HO_331001 BK292 BK293 BK307 BK316 BK329 BK330 HB; have HO_308001 := n0_; have HO_308002 := n1_; have HO_317001 := n2_; have HO_317002 := n3_; have HO_330001 := n4_; have HO_330002 := n5_; have HO_331001 := n6_; have BK292 := n7_; have BK293 := n8_; have BK307 := n9_; have BK316 := n10_; have BK329 := n11_; have BK330 := n12_; have HB := n13_; clear n0_ n1_ n2_ n3_ n4_ n5_ n6_ n7_ n8_ n9_ n10_ n11_ n12_ n13_; (try clear hb); (try clear hb2); (try clear hk); (try clear hi)))
                            go_meet
                            case rel => exact ⟨_, ((t334 != (wrap64 (t298 - 1)))), (by first | rfl | (simp; done) | (simp [*]; done)), H', ⟨by have := HJ3.out; have := HJ37.out; have := HJ86.out; first | omega | exact Nat.le_refl _⟩, ⟨by (with_reducible repeat (first | apply Kd.V_alloc | apply Kd.V_drewN | apply Kd.V_drew)); exact HO_308001.out⟩, ⟨by (with_reducible repeat (first | apply Kd.V_alloc | apply Kd.V_drewN | apply Kd.V_drew)); exact HO_308002.out⟩, ⟨by (with_reducible repeat (first | apply Kd.V_alloc | apply Kd.V_drewN | apply Kd.V_drew)); exact HO_317001.out⟩, ⟨by (with_reducible repeat (first | apply Kd.V_alloc | apply Kd.V_drewN | apply Kd.V_drew)); exact HO_317002.out⟩, ⟨by (with_reducible repeat (first | apply Kd.V_alloc | apply Kd.V_drewN | apply Kd.V_drew)); exact HO_330001.out⟩, ⟨by (with_reducible repeat (first | apply Kd.V_alloc | apply Kd.V_drewN | apply Kd.V_drew)); exact HO_330002.out⟩, ⟨by (with_reducible repeat (first | apply Kd.V_alloc | apply Kd.V_drewN | apply Kd.V_drew)); exact HO_331001.out⟩, ⟨by (with_reducible repeat (first | refine blk_drewN ?_ _ | refine blk_drew ?_ | refine blk_alloc ?_ _)); exact BK292.out⟩, ⟨by (with_reducible repeat (first | refine blk_drewN ?_ _ | refine blk_drew ?_ | refine blk_alloc ?_ _)); exact BK293.out⟩, ⟨by (with_reducible repeat (first | refine blk_drewN ?_ _ | refine blk_drew ?_ | refine blk_alloc ?_ _)); exact BK307.out⟩, ⟨by (with_reducible repeat (first | refine blk_drewN ?_ _ | refine blk_drew ?_ | refine blk_alloc ?_ _)); exact BK316.out⟩, ⟨by (with_reducible repeat (first | refine blk_drewN ?_ _ | refine blk_drew ?_ | refine blk_alloc ?_ _)); exact BK329.out⟩, ⟨by (with_reducible repeat (first | refine blk_drewN ?_ _ | refine blk_drew ?_ | refine blk_alloc ?_ _)); exact BK330.out⟩, ⟨by repeat (first | (with_reducible first | exact HB.out | apply below_alloc | apply pw_below_drewN | apply below_drew1 | refine below_set ?_ GE292.out | refine below_set ?_ GE293.out | refine below_set ?_ GE307.out | refine below_set ?_ GE316.out | refine below_set ?_ GE329.out | refine below_set ?_ GE330.out) | exact HB.out)⟩⟩
                          · rw [if_neg c145] at H
                            have c145b0 : (t315 == 0) = false := beq_eq_false_iff_ne.mpr c145
                            have c145b1 : (t315 != 0) = true := bne_iff_ne.mpr c145
                            have H' := Aside0.mk H
                            clear H
                            have hnb160 := NB307_292.out
                            have hnc160 := NB292_307.out
                            have hnb161 := NB307_293.out
                            have hnc161 := NB293_307.out
                            have hnb162 := NB307_316.out
                            have hnc162 := NB316_307.out
                            have hnb163 := NB307_329.out
                            have hnc163 := NB329_307.out
                            have hnb164 := NB307_330.out
                            have hnc164 := NB330_307.out
                            have ⟨hcz165_0, hcz165_1, hcz165_2⟩ := cz3_ BK307.out
                            have ⟨hfz165_0, hfz165_1, hfz165_2⟩ := fz3_ BK307.out
                            go_wp2_with (first | (go_at_call 20; (with_reducible refine (net_Free.calls t299 _ _ t300 _ _ t303 t331 _ ?side1 ?side2 ?side3 ?side4 A94.out).mono ?_); (case side1 => repeat (first | exact (Kd.V_reads' HO_308001.out).2.2 | (with_reducible refine Kd.C_alloc ?_ _) | (with_reducible refine Kd.C_drewN ?_ _) | (with_reducible refine Kd.C_drew ?_))); (case side2 => exact (Kd.V_reads' HO_308001.out).2.1); (case side3 => repeat (first | exact (Kd.V_reads' HO_308002.out).2.2 | (with_reducible refine Kd.C_alloc ?_ _) | (with_reducible refine Kd.C_drewN ?_ _) | (with_reducible refine Kd.C_drew ?_))); (case side4 => exact (Kd.V_reads' HO_308002.out).2.1); rintro e w166 ⟨rfl, hb⟩; have n0_ := Aside0.mk (vb_ HO_308001.out hb); have n1_ := Aside0.mk (vb_ HO_308002.out hb); have n2_ := Aside0.mk (vb_ HO_317001.out hb); have n3_ := Aside0.mk (vb_ HO_317002.out hb); have n4_ := Aside0.mk (vb_ HO_330001.out hb); have n5_ := Aside0.mk (vb_ HO_330002.out hb); have n6_ := Aside0.mk (vb_ HO_331001.out hb); have n7_ := Aside0.mk (bb_ BK292.out hb); have n8_ := Aside0.mk (bb_ BK293.out hb); have n9_ := Aside0.mk (bb_ BK307.out hb); have n10_ := Aside0.mk (bb_ BK316.out hb); have n11_ := Aside0.mk (bb_ BK329.out hb); have n12_ := Aside0.mk (bb_ BK330.out hb); have n13_ := Aside0.mk (bs_ hb); clear HO_308001 HO_308002 HO_317001 HO_317002 HO_330001 HO_330002 HO_331001 BK292 BK293 BK307 BK316 BK329 BK330 HB; have HO_308001 := n0_; have HO_308002 := n1_; have HO_317001 := n2_; have HO_317002 := n3_; have HO_330001 := n4_; have HO_330002 := n5_; have HO_331001 := n6_; have BK292 := n7_; have BK293 := n8_; have BK307 := n9_; have BK316 := n10_; have BK329 := n11_; have BK330 := n12_; have HB := n13_; clear n0_ n1_ n2_ n3_ n4_ n5_ n6_ n7_ n8_ n9_ n10_ n11_ n12_ n13_; (try clear hb); (try clear hb2); (try clear hk); (try clear hi)))
                            go_meet
                            case rel => exact ⟨_, (false), (by first | rfl | (simp; done) | (simp [*]; done)), H', ⟨by have := HJ3.out; have := HJ37.out; have := HJ86.out; first | omega | exact Nat.le_refl _⟩, ⟨by (with_reducible repeat (first | apply Kd.V_alloc | apply Kd.V_drewN | apply Kd.V_drew)); exact HO_308001.out⟩, ⟨by (with_reducible repeat (first | apply Kd.V_alloc | apply Kd.V_drewN | apply Kd.V_drew)); exact HO_308002.out⟩, ⟨by (with_reducible repeat (first | apply Kd.V_alloc | apply Kd.V_drewN | apply Kd.V_drew)); exact HO_317001.out⟩, ⟨by (with_reducible repeat (first | apply Kd.V_alloc | apply Kd.V_drewN | apply Kd.V_drew)); exact HO_317002.out⟩, ⟨by (with_reducible repeat (first | apply Kd.V_alloc | apply Kd.V_drewN | apply Kd.V_drew)); exact HO_330001.out⟩, ⟨by (with_reducible repeat (first | apply Kd.V_alloc | apply Kd.V_drewN | apply Kd.V_drew)); exact HO_330002.out⟩, ⟨by (with_reducible repeat (first | apply Kd.V_alloc | apply Kd.V_drewN | apply Kd.V_drew)); exact HO_331001.out⟩, ⟨by (with_reducible repeat (first | refine blk_drewN ?_ _ | refine blk_drew ?_ | refine blk_alloc ?_ _)); exact BK292.out⟩, ⟨by (with_reducible repeat (first | refine blk_drewN ?_ _ | refine blk_drew ?_ | refine blk_alloc ?_ _)); exact BK293.out⟩, ⟨by (with_reducible repeat (first | refine blk_drewN ?_ _ | refine blk_drew ?_ | refine blk_alloc ?_ _)); exact BK307.out⟩, ⟨by (with_reducible repeat (first | refine blk_drewN ?_ _ | refine blk_drew ?_ | refine blk_alloc ?_ _)); exact BK316.out⟩, ⟨by (with_reducible repeat (first | refine blk_drewN ?_ _ | refine blk_drew ?_ | refine blk_alloc ?_ _)); exact BK329.out⟩, ⟨by (with_reducible repeat (first | refine blk_drewN ?_ _ | refine blk_drew ?_ | refine blk_alloc ?_ _)); exact BK330.out⟩, ⟨by repeat (first | (with_reducible first | exact HB.out | apply below_alloc | apply pw_below_drewN | apply below_drew1 | refine below_set ?_ GE292.out | refine below_set ?_ GE293.out | refine below_set ?_ GE307.out | refine below_set ?_ GE316.out | refine below_set ?_ GE329.out | refine below_set ?_ GE330.out) | exact HB.out)⟩⟩
                      · rw [if_neg c95] at H
                        have c95b0 : (t331 == (wrap64 (t298 - 1))) = false := beq_eq_false_iff_ne.mpr c95
                        have c95b1 : (t331 != (wrap64 (t298 - 1))) = true := bne_iff_ne.mpr c95
                        have H' := Aside0.mk H
                        clear H
                        have hnb167 := NB307_292.out
                        have hnc167 := NB292_307.out
                        have hnb168 := NB307_293.out
                        have hnc168 := NB293_307.out
                        have hnb169 := NB307_316.out
                        have hnc169 := NB316_307.out
                        have hnb170 := NB307_329.out
                        have hnc170 := NB329_307.out
                        have hnb171 := NB307_330.out
                        have hnc171 := NB330_307.out
                        have ⟨hcz172_0, hcz172_1, hcz172_2⟩ := cz3_ BK307.out
                        have ⟨hfz172_0, hfz172_1, hfz172_2⟩ := fz3_ BK307.out
                        go_wp2_with (first | (go_at_call 20; (with_reducible refine (net_Free.calls t299 _ _ t300 _ _ t303 t331 _ ?side1 ?side2 ?side3 ?side4 A94.out).mono ?_); (case side1 => repeat (first | exact (Kd.V_reads' HO_308001.out).2.2 | (with_reducible refine Kd.C_alloc ?_ _) | (with_reducible refine Kd.C_drewN ?_ _) | (with_reducible refine Kd.C_drew ?_))); (case side2 => exact (Kd.V_reads' HO_308001.out).2.1); (case side3 => repeat (first | exact (Kd.V_reads' HO_308002.out).2.2 | (with_reducible refine Kd.C_alloc ?_ _) | (with_reducible refine Kd.C_drewN ?_ _) | (with_reducible refine Kd.C_drew ?_))); (case side4 => exact (Kd.V_reads' HO_308002.out).2.1); rintro e w173 ⟨rfl, hb⟩; have n0_ := Aside0.mk (vb_ HO_308001.out hb); have n1_ := Aside0.mk (vb_ HO_308002.out hb); have n2_ := Aside0.mk (vb_ HO_317001.out hb); have n3_ := Aside0.mk (vb_ HO_317002.out hb); have n4_ := Aside0.mk (vb_ HO_330001.out hb); have n5_ := Aside0.mk (vb_ HO_330002.out hb); have n6_ := Aside0.mk (vb_ HO_331001.out hb); have n7_ := Aside0.mk (bb_ BK292.out hb); have n8_ := Aside0.mk (bb_ BK293.out hb); have n9_ := Aside0.mk (bb_ BK307.out hb); have n10_ := Aside0.mk (bb_ BK316.out hb); have n11_ := Aside0.mk (bb_ BK329.out hb); have n12_ := Aside0.mk (bb_ BK330.out hb); have n13_ := Aside0.mk (bs_ hb); clear HO_308001 HO_308002 HO_317001 HO_317002 HO_330001 HO_330002 HO_331001 BK292 BK293 BK307 BK316 BK329 BK330 HB; have HO_308001 := n0_; have HO_308002 := n1_; have HO_317001 := n2_; have HO_317002 := n3_; have HO_330001 := n4_; have HO_330002 := n5_; have HO_331001 := n6_; have BK292 := n7_; have BK293 := n8_; have BK307 := n9_; have BK316 := n10_; have BK329 := n11_; have BK330 := n12_; have HB := n13_; clear n0_ n1_ n2_ n3_ n4_ n5_ n6_ n7_ n8_ n9_ n10_ n11_ n12_ n13_; (try clear hb); (try clear hb2); (try clear hk); (try clear hi)))
                        go_meet
                        case rel => exact ⟨_, (true), (by first | rfl | (simp; done) | (simp [*]; done)), H', ⟨by have := HJ3.out; have := HJ37.out; have := HJ86.out; first | omega | exact Nat.le_refl _⟩, ⟨by (with_reducible repeat (first | apply Kd.V_alloc | apply Kd.V_drewN | apply Kd.V_drew)); exact HO_308001.out⟩, ⟨by (with_reducible repeat (first | apply Kd.V_alloc | apply Kd.V_drewN | apply Kd.V_drew)); exact HO_308002.out⟩, ⟨by (with_reducible repeat (first | apply Kd.V_alloc | apply Kd.V_drewN | apply Kd.V_drew)); exact HO_317001.out⟩, ⟨by (with_reducible repeat (first | apply Kd.V_alloc | apply Kd.V_drewN | apply Kd.V_drew)); exact HO_317002.out⟩, ⟨by (with_reducible repeat (first | apply Kd.V_alloc | apply Kd.V_drewN | apply Kd.V_drew)); exact HO_330001.out⟩, ⟨by (with_reducible repeat (first | apply Kd.V_alloc | apply Kd.V_drewN | apply Kd.V_drew)); exact HO_330002.out⟩, ⟨by (with_reducible repeat (first | apply Kd.V_alloc | apply Kd.V_drewN | apply Kd.V_drew)); exact HO_331001.out⟩, ⟨by (with_reducible repeat (first | refine blk_drewN ?_ _ | refine blk_drew ?_ | refine blk_alloc ?_ _)); exact BK292.out⟩, ⟨by (with_reducible repeat (first | refine blk_drewN ?_ _ | refine blk_drew ?_ | refine blk_alloc ?_ _)); exact BK293.out⟩, ⟨by (with_reducible repeat (first | refine blk_drewN ?_ _ | refine blk_drew ?_ | refine blk_alloc ?_ _)); exact BK307.out⟩, ⟨by (with_reducible repeat (first | refine blk_drewN ?_ _ | refine blk_drew ?_ | refine blk_alloc ?_ _)); exact BK316.out⟩, ⟨by (with_reducible repeat (first | refine blk_drewN ?_ _ | refine blk_drew ?_ | refine blk_alloc ?_ _)); exact BK329.out⟩, ⟨by (with_reducible repeat (first | refine blk_drewN ?_ _ | refine blk_drew ?_ | refine blk_alloc ?_ _)); exact BK330.out⟩, ⟨by repeat (first | (with_reducible first | exact HB.out | apply below_alloc | apply pw_below_drewN | apply below_drew1 | refine below_set ?_ GE292.out | refine below_set ?_ GE293.out | refine below_set ?_ GE307.out | refine below_set ?_ GE316.out | refine below_set ?_ GE329.out | refine below_set ?_ GE330.out) | exact HB.out)⟩⟩
                    · rw [if_neg c93] at H
                      have c93b0 : (t306 == 0) = false := beq_eq_false_iff_ne.mpr c93
                      have c93b1 : (t306 != 0) = true := bne_iff_ne.mpr c93
                      (first | rw [c93b0] | (simp only [i64_w, i32_w]; rw [c93b0]) | skip)
                      by_cases c174 : t328 = 0
                      · rw [if_pos c174] at H
                        have c174b0 : (t328 == 0) = true := beq_iff_eq.mpr c174
                        have c174b1 : (t328 != 0) = false := bne_eq_false_iff_eq.mpr c174
                        clear c174
                        replace H := Option.bind_eq_some_iff.mp H
                        obtain ⟨t335, A1750, H⟩ := H
                        replace H : (if t335 = (wrap64 (t298 + 1)) then (if t315 = 0 then ((net_Free.f t308 t309 t312).bind fun t336 => (chamberlainlaw06_NetRoom.j3 kj86 t315 (t336 != (wrap64 (t298 - 1))) a0_0 l0_1 l0_2 t308 t309 t312 t324 t325)) else (chamberlainlaw06_NetRoom.j3 kj86 t315 false a0_0 l0_1 l0_2 t308 t309 t312 t324 t325)) else (chamberlainlaw06_NetRoom.j3 kj86 t315 true a0_0 l0_1 l0_2 t308 t309 t312 t324 t325)) = some r := H
                        have A175 := Aside0.mk A1750
                        clear A1750
                        by_cases c176 : t335 = (wrap64 (t298 + 1))
                        · rw [if_pos c176] at H
                          have c176b0 : (t335 == (wrap64 (t298 + 1))) = true := beq_iff_eq.mpr c176
                          have c176b1 : (t335 != (wrap64 (t298 + 1))) = false := bne_eq_false_iff_eq.mpr c176
                          clear c176
                          by_cases c177 : t315 = 0
                          · rw [if_pos c177] at H
                            have c177b0 : (t315 == 0) = true := beq_iff_eq.mpr c177
                            have c177b1 : (t315 != 0) = false := bne_eq_false_iff_eq.mpr c177
                            clear c177
                            replace H := Option.bind_eq_some_iff.mp H
                            obtain ⟨t336, A1780, H⟩ := H
                            replace H : (chamberlainlaw06_NetRoom.j3 kj86 t315 (t336 != (wrap64 (t298 - 1))) a0_0 l0_1 l0_2 t308 t309 t312 t324 t325) = some r := H
                            have A178 := Aside0.mk A1780
                            clear A1780
                            have H' := Aside0.mk H
                            clear H
                            have hnb179 := NB329_292.out
                            have hnc179 := NB292_329.out
                            have hnb180 := NB329_293.out
                            have hnc180 := NB293_329.out
                            have hnb181 := NB329_307.out
                            have hnc181 := NB307_329.out
                            have hnb182 := NB329_316.out
                            have hnc182 := NB316_329.out
                            have hnb183 := NB329_330.out
                            have hnc183 := NB330_329.out
                            have ⟨hcz184_0, hcz184_1, hcz184_2⟩ := cz3_ BK329.out
                            have ⟨hfz184_0, hfz184_1, hfz184_2⟩ := fz3_ BK329.out
                            go_wp2_with (first | (go_at_call 20; (with_reducible refine (net_Free.calls t317 _ _ t318 _ _ t321 t335 _ ?side1 ?side2 ?side3 ?side4 A175.out).mono ?_); (case side1 => repeat (first | exact (Kd.V_reads' HO_330001.out).2.2 | (with_reducible refine Kd.C_alloc ?_ _) | (with_reducible refine Kd.C_drewN ?_ _) | (with_reducible refine Kd.C_drew ?_))); (case side2 => exact (Kd.V_reads' HO_330001.out).2.1); (case side3 => repeat (first | exact (Kd.V_reads' HO_330002.out).2.2 | (with_reducible refine Kd.C_alloc ?_ _) | (with_reducible refine Kd.C_drewN ?_ _) | (with_reducible refine Kd.C_drew ?_))); (case side4 => exact (Kd.V_reads' HO_330002.out).2.1); rintro e w185 ⟨rfl, hb⟩; have n0_ := Aside0.mk (vb_ HO_308001.out hb); have n1_ := Aside0.mk (vb_ HO_308002.out hb); have n2_ := Aside0.mk (vb_ HO_317001.out hb); have n3_ := Aside0.mk (vb_ HO_317002.out hb); have n4_ := Aside0.mk (vb_ HO_330001.out hb); have n5_ := Aside0.mk (vb_ HO_330002.out hb); have n6_ := Aside0.mk (vb_ HO_331001.out hb); have n7_ := Aside0.mk (bb_ BK292.out hb); have n8_ := Aside0.mk (bb_ BK293.out hb); have n9_ := Aside0.mk (bb_ BK307.out hb); have n10_ := Aside0.mk (bb_ BK316.out hb); have n11_ := Aside0.mk (bb_ BK329.out hb); have n12_ := Aside0.mk (bb_ BK330.out hb); have n13_ := Aside0.mk (bs_ hb); clear HO_308001 HO_308002 HO_317001 HO_317002 HO_330001 HO_330002 HO_331001 BK292 BK293 BK307 BK316 BK329 BK330 HB; have HO_308001 := n0_; have HO_308002 := n1_; have HO_317001 := n2_; have HO_317002 := n3_; have HO_330001 := n4_; have HO_330002 := n5_; have HO_331001 := n6_; have BK292 := n7_; have BK293 := n8_; have BK307 := n9_; have BK316 := n10_; have BK329 := n11_; have BK330 := n12_; have HB := n13_; clear n0_ n1_ n2_ n3_ n4_ n5_ n6_ n7_ n8_ n9_ n10_ n11_ n12_ n13_; (try clear hb); (try clear hb2); (try clear hk); (try clear hi); have hnb186 := NB316_292.out; have hnc186 := NB292_316.out; have hnb187 := NB316_293.out; have hnc187 := NB293_316.out; have hnb188 := NB316_307.out; have hnc188 := NB307_316.out; have hnb189 := NB316_330.out; have hnc189 := NB330_316.out; have ⟨hcz190_0, hcz190_1, hcz190_2⟩ := cz3_ BK316.out; have ⟨hfz190_0, hfz190_1, hfz190_2⟩ := fz3_ BK316.out) | (go_at_call 20; (with_reducible refine (net_Free.calls t308 _ _ t309 _ _ t312 t336 _ ?side1 ?side2 ?side3 ?side4 A178.out).mono ?_); (case side1 => repeat (first | exact (Kd.V_reads' HO_317001.out).2.2 | (with_reducible refine Kd.C_alloc ?_ _) | (with_reducible refine Kd.C_drewN ?_ _) | (with_reducible refine Kd.C_drew ?_))); (case side2 => exact (Kd.V_reads' HO_317001.out).2.1); (case side3 => repeat (first | exact (Kd.V_reads' HO_317002.out).2.2 | (with_reducible refine Kd.C_alloc ?_ _) | (with_reducible refine Kd.C_drewN ?_ _) | (with_reducible refine Kd.C_drew ?_))); (case side4 => exact (Kd.V_reads' HO_317002.out).2.1); rintro e w191 ⟨rfl, hb⟩; have n0_ := Aside0.mk (vb_ HO_308001.out hb); have n1_ := Aside0.mk (vb_ HO_308002.out hb); have n2_ := Aside0.mk (vb_ HO_317001.out hb); have n3_ := Aside0.mk (vb_ HO_317002.out hb); have n4_ := Aside0.mk (vb_ HO_330001.out hb); have n5_ := Aside0.mk (vb_ HO_330002.out hb); have n6_ := Aside0.mk (vb_ HO_331001.out hb); have n7_ := Aside0.mk (bb_ BK292.out hb); have n8_ := Aside0.mk (bb_ BK293.out hb); have n9_ := Aside0.mk (bb_ BK307.out hb); have n10_ := Aside0.mk (bb_ BK316.out hb); have n11_ := Aside0.mk (bb_ BK329.out hb); have n12_ := Aside0.mk (bb_ BK330.out hb); have n13_ := Aside0.mk (bs_ hb); clear HO_308001 HO_308002 HO_317001 HO_317002 HO_330001 HO_330002 HO_331001 BK292 BK293 BK307 BK316 BK329 BK330 HB; have HO_308001 := n0_; have HO_308002 := n1_; have HO_317001 := n2_; have HO_317002 := n3_; have HO_330001 := n4_; have HO_330002 := n5_; have HO_331001 := n6_; have BK292 := n7_; have BK293 := n8_; have BK307 := n9_; have BK316 := n10_; have BK329 := n11_; have BK330 := n12_; have HB := n13_; clear n0_ n1_ n2_ n3_ n4_ n5_ n6_ n7_ n8_ n9_ n10_ n11_ n12_ n13_; (try clear hb); (try clear hb2); (try clear hk); (try clear hi)))
                            go_meet
                            case rel => exact ⟨_, ((t336 != (wrap64 (t298 - 1)))), (by first | rfl | (simp; done) | (simp [*]; done)), H', ⟨by have := HJ3.out; have := HJ37.out; have := HJ86.out; first | omega | exact Nat.le_refl _⟩, ⟨by (with_reducible repeat (first | apply Kd.V_alloc | apply Kd.V_drewN | apply Kd.V_drew)); exact HO_308001.out⟩, ⟨by (with_reducible repeat (first | apply Kd.V_alloc | apply Kd.V_drewN | apply Kd.V_drew)); exact HO_308002.out⟩, ⟨by (with_reducible repeat (first | apply Kd.V_alloc | apply Kd.V_drewN | apply Kd.V_drew)); exact HO_317001.out⟩, ⟨by (with_reducible repeat (first | apply Kd.V_alloc | apply Kd.V_drewN | apply Kd.V_drew)); exact HO_317002.out⟩, ⟨by (with_reducible repeat (first | apply Kd.V_alloc | apply Kd.V_drewN | apply Kd.V_drew)); exact HO_330001.out⟩, ⟨by (with_reducible repeat (first | apply Kd.V_alloc | apply Kd.V_drewN | apply Kd.V_drew)); exact HO_330002.out⟩, ⟨by (with_reducible repeat (first | apply Kd.V_alloc | apply Kd.V_drewN | apply Kd.V_drew)); exact HO_331001.out⟩, ⟨by (with_reducible repeat (first | refine blk_drewN ?_ _ | refine blk_drew ?_ | refine blk_alloc ?_ _)); exact BK292.out⟩, ⟨by (with_reducible repeat (first | refine blk_drewN ?_ _ | refine blk_drew ?_ | refine blk_alloc ?_ _)); exact BK293.out⟩, ⟨by (with_reducible repeat (first | refine blk_drewN ?_ _ | refine blk_drew ?_ | refine blk_alloc ?_ _)); exact BK307.out⟩, ⟨by (with_reducible repeat (first | refine blk_drewN ?_ _ | refine blk_drew ?_ | refine blk_alloc ?_ _)); exact BK316.out⟩, ⟨by (with_reducible repeat (first | refine blk_drewN ?_ _ | refine blk_drew ?_ | refine blk_alloc ?_ _)); exact BK329.out⟩, ⟨by (with_reducible repeat (first | refine blk_drewN ?_ _ | refine blk_drew ?_ | refine blk_alloc ?_ _)); exact BK330.out⟩, ⟨by repeat (first | (with_reducible first | exact HB.out | apply below_alloc | apply pw_below_drewN | apply below_drew1 | refine below_set ?_ GE292.out | refine below_set ?_ GE293.out | refine below_set ?_ GE307.out | refine below_set ?_ GE316.out | refine below_set ?_ GE329.out | refine below_set ?_ GE330.out) | exact HB.out)⟩⟩
                          · rw [if_neg c177] at H
                            have c177b0 : (t315 == 0) = false := beq_eq_false_iff_ne.mpr c177
                            have c177b1 : (t315 != 0) = true := bne_iff_ne.mpr c177
                            have H' := Aside0.mk H
                            clear H
                            have hnb192 := NB329_292.out
                            have hnc192 := NB292_329.out
                            have hnb193 := NB329_293.out
                            have hnc193 := NB293_329.out
                            have hnb194 := NB329_307.out
                            have hnc194 := NB307_329.out
                            have hnb195 := NB329_316.out
                            have hnc195 := NB316_329.out
                            have hnb196 := NB329_330.out
                            have hnc196 := NB330_329.out
                            have ⟨hcz197_0, hcz197_1, hcz197_2⟩ := cz3_ BK329.out
                            have ⟨hfz197_0, hfz197_1, hfz197_2⟩ := fz3_ BK329.out
                            go_wp2_with (first | (go_at_call 20; (with_reducible refine (net_Free.calls t317 _ _ t318 _ _ t321 t335 _ ?side1 ?side2 ?side3 ?side4 A175.out).mono ?_); (case side1 => repeat (first | exact (Kd.V_reads' HO_330001.out).2.2 | (with_reducible refine Kd.C_alloc ?_ _) | (with_reducible refine Kd.C_drewN ?_ _) | (with_reducible refine Kd.C_drew ?_))); (case side2 => exact (Kd.V_reads' HO_330001.out).2.1); (case side3 => repeat (first | exact (Kd.V_reads' HO_330002.out).2.2 | (with_reducible refine Kd.C_alloc ?_ _) | (with_reducible refine Kd.C_drewN ?_ _) | (with_reducible refine Kd.C_drew ?_))); (case side4 => exact (Kd.V_reads' HO_330002.out).2.1); rintro e w198 ⟨rfl, hb⟩; have n0_ := Aside0.mk (vb_ HO_308001.out hb); have n1_ := Aside0.mk (vb_ HO_308002.out hb); have n2_ := Aside0.mk (vb_ HO_317001.out hb); have n3_ := Aside0.mk (vb_ HO_317002.out hb); have n4_ := Aside0.mk (vb_ HO_330001.out hb); have n5_ := Aside0.mk (vb_ HO_330002.out hb); have n6_ := Aside0.mk (vb_ HO_331001.out hb); have n7_ := Aside0.mk (bb_ BK292.out hb); have n8_ := Aside0.mk (bb_ BK293.out hb); have n9_ := Aside0.mk (bb_ BK307.out hb); have n10_ := Aside0.mk (bb_ BK316.out hb); have n11_ := Aside0.mk (bb_ BK329.out hb); have n12_ := Aside0.mk (bb_ BK330.out hb); have n13_ := Aside0.mk (bs_ hb); clear HO_308001 HO_308002 HO_317001 HO_317002 HO_330001 HO_330002 HO_331001 BK292 BK293 BK307 BK316 BK329 BK330 HB; have HO_308001 := n0_; have HO_308002 := n1_; have HO_317001 := n2_; have HO_317002 := n3_; have HO_330001 := n4_; have HO_330002 := n5_; have HO_331001 := n6_; have BK292 := n7_; have BK293 := n8_; have BK307 := n9_; have BK316 := n10_; have BK329 := n11_; have BK330 := n12_; have HB := n13_; clear n0_ n1_ n2_ n3_ n4_ n5_ n6_ n7_ n8_ n9_ n10_ n11_ n12_ n13_; (try clear hb); (try clear hb2); (try clear hk); (try clear hi)))
                            go_meet
                            case rel => exact ⟨_, (false), (by first | rfl | (simp; done) | (simp [*]; done)), H', ⟨by have := HJ3.out; have := HJ37.out; have := HJ86.out; first | omega | exact Nat.le_refl _⟩, ⟨by (with_reducible repeat (first | apply Kd.V_alloc | apply Kd.V_drewN | apply Kd.V_drew)); exact HO_308001.out⟩, ⟨by (with_reducible repeat (first | apply Kd.V_alloc | apply Kd.V_drewN | apply Kd.V_drew)); exact HO_308002.out⟩, ⟨by (with_reducible repeat (first | apply Kd.V_alloc | apply Kd.V_drewN | apply Kd.V_drew)); exact HO_317001.out⟩, ⟨by (with_reducible repeat (first | apply Kd.V_alloc | apply Kd.V_drewN | apply Kd.V_drew)); exact HO_317002.out⟩, ⟨by (with_reducible repeat (first | apply Kd.V_alloc | apply Kd.V_drewN | apply Kd.V_drew)); exact HO_330001.out⟩, ⟨by (with_reducible repeat (first | apply Kd.V_alloc | apply Kd.V_drewN | apply Kd.V_drew)); exact HO_330002.out⟩, ⟨by (with_reducible repeat (first | apply Kd.V_alloc | apply Kd.V_drewN | apply Kd.V_drew)); exact HO_331001.out⟩, ⟨by (with_reducible repeat (first | refine blk_drewN ?_ _ | refine blk_drew ?_ | refine blk_alloc ?_ _)); exact BK292.out⟩, ⟨by (with_reducible repeat (first | refine blk_drewN ?_ _ | refine blk_drew ?_ | refine blk_alloc ?_ _)); exact BK293.out⟩, ⟨by (with_reducible repeat (first | refine blk_drewN ?_ _ | refine blk_drew ?_ | refine blk_alloc ?_ _)); exact BK307.out⟩, ⟨by (with_reducible repeat (first | refine blk_drewN ?_ _ | refine blk_drew ?_ | refine blk_alloc ?_ _)); exact BK316.out⟩, ⟨by (with_reducible repeat (first | refine blk_drewN ?_ _ | refine blk_drew ?_ | refine blk_alloc ?_ _)); exact BK329.out⟩, ⟨by (with_reducible repeat (first | refine blk_drewN ?_ _ | refine blk_drew ?_ | refine blk_alloc ?_ _)); exact BK330.out⟩, ⟨by repeat (first | (with_reducible first | exact HB.out | apply below_alloc | apply pw_below_drewN | apply below_drew1 | refine below_set ?_ GE292.out | refine below_set ?_ GE293.out | refine below_set ?_ GE307.out | refine below_set ?_ GE316.out | refine below_set ?_ GE329.out | refine below_set ?_ GE330.out) | exact HB.out)⟩⟩
                        · rw [if_neg c176] at H
                          have c176b0 : (t335 == (wrap64 (t298 + 1))) = false := beq_eq_false_iff_ne.mpr c176
                          have c176b1 : (t335 != (wrap64 (t298 + 1))) = true := bne_iff_ne.mpr c176
                          have H' := Aside0.mk H
                          clear H
                          have hnb199 := NB329_292.out
                          have hnc199 := NB292_329.out
                          have hnb200 := NB329_293.out
                          have hnc200 := NB293_329.out
                          have hnb201 := NB329_307.out
                          have hnc201 := NB307_329.out
                          have hnb202 := NB329_316.out
                          have hnc202 := NB316_329.out
                          have hnb203 := NB329_330.out
                          have hnc203 := NB330_329.out
                          have ⟨hcz204_0, hcz204_1, hcz204_2⟩ := cz3_ BK329.out
                          have ⟨hfz204_0, hfz204_1, hfz204_2⟩ := fz3_ BK329.out
                          go_wp2_with (first | (go_at_call 20; (with_reducible refine (net_Free.calls t317 _ _ t318 _ _ t321 t335 _ ?side1 ?side2 ?side3 ?side4 A175.out).mono ?_); (case side1 => repeat (first | exact (Kd.V_reads' HO_330001.out).2.2 | (with_reducible refine Kd.C_alloc ?_ _) | (with_reducible refine Kd.C_drewN ?_ _) | (with_reducible refine Kd.C_drew ?_))); (case side2 => exact (Kd.V_reads' HO_330001.out).2.1); (case side3 => repeat (first | exact (Kd.V_reads' HO_330002.out).2.2 | (with_reducible refine Kd.C_alloc ?_ _) | (with_reducible refine Kd.C_drewN ?_ _) | (with_reducible refine Kd.C_drew ?_))); (case side4 => exact (Kd.V_reads' HO_330002.out).2.1); rintro e w205 ⟨rfl, hb⟩; have n0_ := Aside0.mk (vb_ HO_308001.out hb); have n1_ := Aside0.mk (vb_ HO_308002.out hb); have n2_ := Aside0.mk (vb_ HO_317001.out hb); have n3_ := Aside0.mk (vb_ HO_317002.out hb); have n4_ := Aside0.mk (vb_ HO_330001.out hb); have n5_ := Aside0.mk (vb_ HO_330002.out hb); have n6_ := Aside0.mk (vb_ HO_331001.out hb); have n7_ := Aside0.mk (bb_ BK292.out hb); have n8_ := Aside0.mk (bb_ BK293.out hb); have n9_ := Aside0.mk (bb_ BK307.out hb); have n10_ := Aside0.mk (bb_ BK316.out hb); have n11_ := Aside0.mk (bb_ BK329.out hb); have n12_ := Aside0.mk (bb_ BK330.out hb); have n13_ := Aside0.mk (bs_ hb); clear HO_308001 HO_308002 HO_317001 HO_317002 HO_330001 HO_330002 HO_331001 BK292 BK293 BK307 BK316 BK329 BK330 HB; have HO_308001 := n0_; have HO_308002 := n1_; have HO_317001 := n2_; have HO_317002 := n3_; have HO_330001 := n4_; have HO_330002 := n5_; have HO_331001 := n6_; have BK292 := n7_; have BK293 := n8_; have BK307 := n9_; have BK316 := n10_; have BK329 := n11_; have BK330 := n12_; have HB := n13_; clear n0_ n1_ n2_ n3_ n4_ n5_ n6_ n7_ n8_ n9_ n10_ n11_ n12_ n13_; (try clear hb); (try clear hb2); (try clear hk); (try clear hi)))
                          go_meet
                          case rel => exact ⟨_, (true), (by first | rfl | (simp; done) | (simp [*]; done)), H', ⟨by have := HJ3.out; have := HJ37.out; have := HJ86.out; first | omega | exact Nat.le_refl _⟩, ⟨by (with_reducible repeat (first | apply Kd.V_alloc | apply Kd.V_drewN | apply Kd.V_drew)); exact HO_308001.out⟩, ⟨by (with_reducible repeat (first | apply Kd.V_alloc | apply Kd.V_drewN | apply Kd.V_drew)); exact HO_308002.out⟩, ⟨by (with_reducible repeat (first | apply Kd.V_alloc | apply Kd.V_drewN | apply Kd.V_drew)); exact HO_317001.out⟩, ⟨by (with_reducible repeat (first | apply Kd.V_alloc | apply Kd.V_drewN | apply Kd.V_drew)); exact HO_317002.out⟩, ⟨by (with_reducible repeat (first | apply Kd.V_alloc | apply Kd.V_drewN | apply Kd.V_drew)); exact HO_330001.out⟩, ⟨by (with_reducible repeat (first | apply Kd.V_alloc | apply Kd.V_drewN | apply Kd.V_drew)); exact HO_330002.out⟩, ⟨by (with_reducible repeat (first | apply Kd.V_alloc | apply Kd.V_drewN | apply Kd.V_drew)); exact HO_331001.out⟩, ⟨by (with_reducible repeat (first | refine blk_drewN ?_ _ | refine blk_drew ?_ | refine blk_alloc ?_ _)); exact BK292.out⟩, ⟨by (with_reducible repeat (first | refine blk_drewN ?_ _ | refine blk_drew ?_ | refine blk_alloc ?_ _)); exact BK293.out⟩, ⟨by (with_reducible repeat (first | refine blk_drewN ?_ _ | refine blk_drew ?_ | refine blk_alloc ?_ _)); exact BK307.out⟩, ⟨by (with_reducible repeat (first | refine blk_drewN ?_ _ | refine blk_drew ?_ | refine blk_alloc ?_ _)); exact BK316.out⟩, ⟨by (with_reducible repeat (first | refine blk_drewN ?_ _ | refine blk_drew ?_ | refine blk_alloc ?_ _)); exact BK329.out⟩, ⟨by (with_reducible repeat (first | refine blk_drewN ?_ _ | refine blk_drew ?_ | refine blk_alloc ?_ _)); exact BK330.out⟩, ⟨by repeat (first | (with_reducible first | exact HB.out | apply below_alloc | apply pw_below_drewN | apply below_drew1 | refine below_set ?_ GE292.out | refine below_set ?_ GE293.out | refine below_set ?_ GE307.out | refine below_set ?_ GE316.out | refine below_set ?_ GE329.out | refine below_set ?_ GE330.out) | exact HB.out)⟩⟩
                      · rw [if_neg c174] at H
                        have c174b0 : (t328 == 0) = false := beq_eq_false_iff_ne.mpr c174
                        have c174b1 : (t328 != 0) = true := bne_iff_ne.mpr c174
                        by_cases c206 : t315 = 0
                        · rw [if_pos c206] at H
                          have c206b0 : (t315 == 0) = true := beq_iff_eq.mpr c206
                          have c206b1 : (t315 != 0) = false := bne_eq_false_iff_eq.mpr c206
                          clear c206
                          replace H := Option.bind_eq_some_iff.mp H
                          obtain ⟨t337, A2070, H⟩ := H
                          replace H : (chamberlainlaw06_NetRoom.j3 kj86 t315 (t337 != (wrap64 (t298 - 1))) a0_0 l0_1 l0_2 t308 t309 t312 t324 t325) = some r := H
                          have A207 := Aside0.mk A2070
                          clear A2070
                          have H' := Aside0.mk H
                          clear H
                          have hnb208 := NB316_292.out
                          have hnc208 := NB292_316.out
                          have hnb209 := NB316_293.out
                          have hnc209 := NB293_316.out
                          have hnb210 := NB316_307.out
                          have hnc210 := NB307_316.out
                          have hnb211 := NB316_329.out
                          have hnc211 := NB329_316.out
                          have hnb212 := NB316_330.out
                          have hnc212 := NB330_316.out
                          have ⟨hcz213_0, hcz213_1, hcz213_2⟩ := cz3_ BK316.out
                          have ⟨hfz213_0, hfz213_1, hfz213_2⟩ := fz3_ BK316.out
                          go_wp2_with (first | (go_at_call 20; (with_reducible refine (net_Free.calls t308 _ _ t309 _ _ t312 t337 _ ?side1 ?side2 ?side3 ?side4 A207.out).mono ?_); (case side1 => repeat (first | exact (Kd.V_reads' HO_317001.out).2.2 | (with_reducible refine Kd.C_alloc ?_ _) | (with_reducible refine Kd.C_drewN ?_ _) | (with_reducible refine Kd.C_drew ?_))); (case side2 => exact (Kd.V_reads' HO_317001.out).2.1); (case side3 => repeat (first | exact (Kd.V_reads' HO_317002.out).2.2 | (with_reducible refine Kd.C_alloc ?_ _) | (with_reducible refine Kd.C_drewN ?_ _) | (with_reducible refine Kd.C_drew ?_))); (case side4 => exact (Kd.V_reads' HO_317002.out).2.1); rintro e w214 ⟨rfl, hb⟩; have n0_ := Aside0.mk (vb_ HO_308001.out hb); have n1_ := Aside0.mk (vb_ HO_308002.out hb); have n2_ := Aside0.mk (vb_ HO_317001.out hb); have n3_ := Aside0.mk (vb_ HO_317002.out hb); have n4_ := Aside0.mk (vb_ HO_330001.out hb); have n5_ := Aside0.mk (vb_ HO_330002.out hb); have n6_ := Aside0.mk (vb_ HO_331001.out hb); have n7_ := Aside0.mk (bb_ BK292.out hb); have n8_ := Aside0.mk (bb_ BK293.out hb); have n9_ := Aside0.mk (bb_ BK307.out hb); have n10_ := Aside0.mk (bb_ BK316.out hb); have n11_ := Aside0.mk (bb_ BK329.out hb); have n12_ := Aside0.mk (bb_ BK330.out hb); have n13_ := Aside0.mk (bs_ hb); clear HO_308001 HO_308002 HO_317001 HO_317002 HO_330001 HO_330002 HO_331001 BK292 BK293 BK307 BK316 BK329 BK330 HB; have HO_308001 := n0_; have HO_308002 := n1_; have HO_317001 := n2_; have HO_317002 := n3_; have HO_330001 := n4_; have HO_330002 := n5_; have HO_331001 := n6_; have BK292 := n7_; have BK293 := n8_; have BK307 := n9_; have BK316 := n10_; have BK329 := n11_; have BK330 := n12_; have HB := n13_; clear n0_ n1_ n2_ n3_ n4_ n5_ n6_ n7_ n8_ n9_ n10_ n11_ n12_ n13_; (try clear hb); (try clear hb2); (try clear hk); (try clear hi)))
                          go_meet
                          case rel => exact ⟨_, ((t337 != (wrap64 (t298 - 1)))), (by first | rfl | (simp; done) | (simp [*]; done)), H', ⟨by have := HJ3.out; have := HJ37.out; have := HJ86.out; first | omega | exact Nat.le_refl _⟩, ⟨by (with_reducible repeat (first | apply Kd.V_alloc | apply Kd.V_drewN | apply Kd.V_drew)); exact HO_308001.out⟩, ⟨by (with_reducible repeat (first | apply Kd.V_alloc | apply Kd.V_drewN | apply Kd.V_drew)); exact HO_308002.out⟩, ⟨by (with_reducible repeat (first | apply Kd.V_alloc | apply Kd.V_drewN | apply Kd.V_drew)); exact HO_317001.out⟩, ⟨by (with_reducible repeat (first | apply Kd.V_alloc | apply Kd.V_drewN | apply Kd.V_drew)); exact HO_317002.out⟩, ⟨by (with_reducible repeat (first | apply Kd.V_alloc | apply Kd.V_drewN | apply Kd.V_drew)); exact HO_330001.out⟩, ⟨by (with_reducible repeat (first | apply Kd.V_alloc | apply Kd.V_drewN | apply Kd.V_drew)); exact HO_330002.out⟩, ⟨by (with_reducible repeat (first | apply Kd.V_alloc | apply Kd.V_drewN | apply Kd.V_drew)); exact HO_331001.out⟩, ⟨by (with_reducible repeat (first | refine blk_drewN ?_ _ | refine blk_drew ?_ | refine blk_alloc ?_ _)); exact BK292.out⟩, ⟨by (with_reducible repeat (first | refine blk_drewN ?_ _ | refine blk_drew ?_ | refine blk_alloc ?_ _)); exact BK293.out⟩, ⟨by (with_reducible repeat (first | refine blk_drewN ?_ _ | refine blk_drew ?_ | refine blk_alloc ?_ _)); exact BK307.out⟩, ⟨by (with_reducible repeat (first | refine blk_drewN ?_ _ | refine blk_drew ?_ | refine blk_alloc ?_ _)); exact BK316.out⟩, ⟨by (with_reducible repeat (first | refine blk_drewN ?_ _ | refine blk_drew ?_ | refine blk_alloc ?_ _)); exact BK329.out⟩, ⟨by (with_reducible repeat (first | refine blk_drewN ?_ _ | refine blk_drew ?_ | refine blk_alloc ?_ _)); exact BK330.out⟩, ⟨by repeat (first | (with_reducible first | exact HB.out | apply below_alloc | apply pw_below_drewN | apply below_drew1 | refine below_set ?_ GE292.out | refine below_set ?_ GE293.out | refine below_set ?_ GE307.out | refine below_set ?_ GE316.out | refine below_set ?_ GE329.out | refine below_set ?_ GE330.out) | exact HB.out)⟩⟩
                        · rw [if_neg c206] at H
                          have c206b0 : (t315 == 0) = false := beq_eq_false_iff_ne.mpr c206
                          have c206b1 : (t315 != 0) = true := bne_iff_ne.mpr c206
                          have H' := Aside0.mk H
                          clear H
                          go_wp2
                          go_meet
                          case rel => exact ⟨_, (false), (by first | rfl | (simp; done) | (simp [*]; done)), H', ⟨by have := HJ3.out; have := HJ37.out; have := HJ86.out; first | omega | exact Nat.le_refl _⟩, ⟨by (with_reducible repeat (first | apply Kd.V_alloc | apply Kd.V_drewN | apply Kd.V_drew)); exact HO_308001.out⟩, ⟨by (with_reducible repeat (first | apply Kd.V_alloc | apply Kd.V_drewN | apply Kd.V_drew)); exact HO_308002.out⟩, ⟨by (with_reducible repeat (first | apply Kd.V_alloc | apply Kd.V_drewN | apply Kd.V_drew)); exact HO_317001.out⟩, ⟨by (with_reducible repeat (first | apply Kd.V_alloc | apply Kd.V_drewN | apply Kd.V_drew)); exact HO_317002.out⟩, ⟨by (with_reducible repeat (first | apply Kd.V_alloc | apply Kd.V_drewN | apply Kd.V_drew)); exact HO_330001.out⟩, ⟨by (with_reducible repeat (first | apply Kd.V_alloc | apply Kd.V_drewN | apply Kd.V_drew)); exact HO_330002.out⟩, ⟨by (with_reducible repeat (first | apply Kd.V_alloc | apply Kd.V_drewN | apply Kd.V_drew)); exact HO_331001.out⟩, ⟨by (with_reducible repeat (first | refine blk_drewN ?_ _ | refine blk_drew ?_ | refine blk_alloc ?_ _)); exact BK292.out⟩, ⟨by (with_reducible repeat (first | refine blk_drewN ?_ _ | refine blk_drew ?_ | refine blk_alloc ?_ _)); exact BK293.out⟩, ⟨by (with_reducible repeat (first | refine blk_drewN ?_ _ | refine blk_drew ?_ | refine blk_alloc ?_ _)); exact BK307.out⟩, ⟨by (with_reducible repeat (first | refine blk_drewN ?_ _ | refine blk_drew ?_ | refine blk_alloc ?_ _)); exact BK316.out⟩, ⟨by (with_reducible repeat (first | refine blk_drewN ?_ _ | refine blk_drew ?_ | refine blk_alloc ?_ _)); exact BK329.out⟩, ⟨by (with_reducible repeat (first | refine blk_drewN ?_ _ | refine blk_drew ?_ | refine blk_alloc ?_ _)); exact BK330.out⟩, ⟨by repeat (first | (with_reducible first | exact HB.out | apply below_alloc | apply pw_below_drewN | apply below_drew1 | refine below_set ?_ GE292.out | refine below_set ?_ GE293.out | refine below_set ?_ GE307.out | refine below_set ?_ GE316.out | refine below_set ?_ GE329.out | refine below_set ?_ GE330.out) | exact HB.out)⟩⟩
                  case rest =>
                    clear HC92
                    try clear c1
                    try clear c2
                    try clear p2
                    try clear c3
                    try clear c4
                    try clear c5
                    try clear c6
                    try clear p6
                    try clear c7
                    try clear c8
                    try clear c9
                    try clear c10
                    try clear c11
                    try clear c12
                    try clear c13
                    try clear c14
                    try clear c15
                    try clear c16
                    try clear c17
                    try clear c18
                    try clear c19
                    try clear c20
                    try clear c21
                    try clear c27
                    try clear c31
                    try clear c39
                    try clear c46
                    try clear c47
                    try clear c55
                    try clear c56
                    try clear c57
                    try clear p64
                    try clear c66
                    try clear c67
                    try clear c68
                    try clear c69
                    try clear c70
                    try clear c74
                    try clear c75
                    try clear c76
                    try clear c77
                    try clear c80
                    try clear c80b0
                    try clear c81
                    try clear c82
                    try clear c83
                    try clear c84
                    try clear c85
                    try clear c88
                    try clear c88b0
                    try clear c88b1
                    try clear c88b2
                    try clear c89
                    try clear c89b0
                    try clear c89b1
                    try clear c89b2
                    try clear c90
                    try clear c91
                    try clear c93
                    try clear c93b0
                    try clear c93b1
                    try clear c95
                    try clear c95b0
                    try clear c95b1
                    try clear c96
                    try clear c96b0
                    try clear c96b1
                    try clear c98
                    try clear c98b0
                    try clear c98b1
                    try clear c99
                    try clear c99b0
                    try clear c99b1
                    try clear c101
                    try clear c102
                    try clear c103
                    try clear c104
                    try clear c105
                    try clear c108
                    try clear c109
                    try clear c110
                    try clear c111
                    try clear c114
                    try clear c115
                    try clear c116
                    try clear c119
                    try clear c120
                    try clear c121
                    try clear c122
                    try clear c123
                    try clear c126
                    try clear c127
                    try clear c128
                    try clear c129
                    try clear c132
                    try clear c133
                    try clear c134
                    try clear c135
                    try clear c136
                    try clear c139
                    try clear c140
                    try clear c141
                    try clear c142
                    try clear c145
                    try clear c145b0
                    try clear c145b1
                    try clear c147
                    try clear c148
                    try clear c149
                    try clear c150
                    try clear c151
                    try clear c154
                    try clear c155
                    try clear c156
                    try clear c157
                    try clear c160
                    try clear c161
                    try clear c162
                    try clear c163
                    try clear c164
                    try clear c167
                    try clear c168
                    try clear c169
                    try clear c170
                    try clear c171
                    try clear c174
                    try clear c174b0
                    try clear c174b1
                    try clear c176
                    try clear c176b0
                    try clear c176b1
                    try clear c177
                    try clear c177b0
                    try clear c177b1
                    try clear c179
                    try clear c180
                    try clear c181
                    try clear c182
                    try clear c183
                    try clear c186
                    try clear c187
                    try clear c188
                    try clear c189
                    try clear c192
                    try clear c193
                    try clear c194
                    try clear c195
                    try clear c196
                    try clear c199
                    try clear c200
                    try clear c201
                    try clear c202
                    try clear c203
                    try clear c206
                    try clear c206b0
                    try clear c206b1
                    try clear c208
                    try clear c209
                    try clear c210
                    try clear c211
                    try clear c212
                    try clear hcz106_0
                    try clear hcz106_1
                    try clear hcz106_2
                    try clear hcz112_0
                    try clear hcz112_1
                    try clear hcz112_2
                    try clear hcz117_0
                    try clear hcz117_1
                    try clear hcz117_2
                    try clear hcz124_0
                    try clear hcz124_1
                    try clear hcz124_2
                    try clear hcz130_0
                    try clear hcz130_1
                    try clear hcz130_2
                    try clear hcz137_0
                    try clear hcz137_1
                    try clear hcz137_2
                    try clear hcz143_0
                    try clear hcz143_1
                    try clear hcz143_2
                    try clear hcz152_0
                    try clear hcz152_1
                    try clear hcz152_2
                    try clear hcz158_0
                    try clear hcz158_1
                    try clear hcz158_2
                    try clear hcz15_0
                    try clear hcz15_1
                    try clear hcz15_2
                    try clear hcz165_0
                    try clear hcz165_1
                    try clear hcz165_2
                    try clear hcz172_0
                    try clear hcz172_1
                    try clear hcz172_2
                    try clear hcz17_0
                    try clear hcz17_1
                    try clear hcz17_2
                    try clear hcz184_0
                    try clear hcz184_1
                    try clear hcz184_2
                    try clear hcz190_0
                    try clear hcz190_1
                    try clear hcz190_2
                    try clear hcz197_0
                    try clear hcz197_1
                    try clear hcz197_2
                    try clear hcz19_0
                    try clear hcz19_1
                    try clear hcz204_0
                    try clear hcz204_1
                    try clear hcz204_2
                    try clear hcz213_0
                    try clear hcz213_1
                    try clear hcz213_2
                    try clear hcz22_0
                    try clear hcz22_1
                    try clear hcz22_2
                    try clear hcz24_0
                    try clear hcz24_1
                    try clear hcz24_2
                    try clear hcz28_0
                    try clear hcz28_1
                    try clear hcz28_2
                    try clear hcz40_0
                    try clear hcz40_1
                    try clear hcz40_2
                    try clear hcz42_0
                    try clear hcz42_1
                    try clear hcz42_2
                    try clear hcz43_0
                    try clear hcz43_1
                    try clear hcz48_0
                    try clear hcz48_1
                    try clear hcz48_2
                    try clear hcz52_0
                    try clear hcz52_1
                    try clear hcz52_2
                    try clear hcz58_0
                    try clear hcz58_1
                    try clear hcz58_2
                    try clear hcz62_0
                    try clear hcz62_1
                    try clear hcz62_2
                    try clear hcz71_0
                    try clear hcz71_1
                    try clear hcz71_2
                    try clear hcz78_0
                    try clear hcz78_1
                    try clear hcz86_0
                    try clear hcz86_1
                    try clear hcz86_2
                    try clear hfz106_0
                    try clear hfz106_1
                    try clear hfz106_2
                    try clear hfz112_0
                    try clear hfz112_1
                    try clear hfz112_2
                    try clear hfz117_0
                    try clear hfz117_1
                    try clear hfz117_2
                    try clear hfz124_0
                    try clear hfz124_1
                    try clear hfz124_2
                    try clear hfz130_0
                    try clear hfz130_1
                    try clear hfz130_2
                    try clear hfz137_0
                    try clear hfz137_1
                    try clear hfz137_2
                    try clear hfz143_0
                    try clear hfz143_1
                    try clear hfz143_2
                    try clear hfz152_0
                    try clear hfz152_1
                    try clear hfz152_2
                    try clear hfz158_0
                    try clear hfz158_1
                    try clear hfz158_2
                    try clear hfz15_0
                    try clear hfz15_1
                    try clear hfz15_2
                    try clear hfz165_0
                    try clear hfz165_1
                    try clear hfz165_2
                    try clear hfz172_0
                    try clear hfz172_1
                    try clear hfz172_2
                    try clear hfz17_0
                    try clear hfz17_1
                    try clear hfz17_2
                    try clear hfz184_0
                    try clear hfz184_1
                    try clear hfz184_2
                    try clear hfz190_0
                    try clear hfz190_1
                    try clear hfz190_2
                    try clear hfz197_0
                    try clear hfz197_1
                    try clear hfz197_2
                    try clear hfz19_0
                    try clear hfz19_1
                    try clear hfz204_0
                    try clear hfz204_1
                    try clear hfz204_2
                    try clear hfz213_0
                    try clear hfz213_1
                    try clear hfz213_2
                    try clear hfz22_0
                    try clear hfz22_1
                    try clear hfz22_2
                    try clear hfz24_0
                    try clear hfz24_1
                    try clear hfz24_2
                    try clear hfz28_0
                    try clear hfz28_1
                    try clear hfz28_2
                    try clear hfz40_0
                    try clear hfz40_1
                    try clear hfz40_2
                    try clear hfz42_0
                    try clear hfz42_1
                    try clear hfz42_2
                    try clear hfz43_0
                    try clear hfz43_1
                    try clear hfz48_0
                    try clear hfz48_1
                    try clear hfz48_2
                    try clear hfz52_0
                    try clear hfz52_1
                    try clear hfz52_2
                    try clear hfz58_0
                    try clear hfz58_1
                    try clear hfz58_2
                    try clear hfz62_0
                    try clear hfz62_1
                    try clear hfz62_2
                    try clear hfz71_0
                    try clear hfz71_1
                    try clear hfz71_2
                    try clear hfz78_0
                    try clear hfz78_1
                    try clear hfz86_0
                    try clear hfz86_1
                    try clear hfz86_2
                    try clear p2
                    obtain ⟨kq, x119_91, rfl, HA, HJ91, HO_308001, HO_308002, HO_317001, HO_317002, HO_330001, HO_330002, HO_331001, BK292, BK293, BK307, BK316, BK329, BK330, HB⟩ := hcut
                    cases kq with
                    | zero => exact absurd HA.out (by simp [chamberlainlaw06_NetRoom.j3])
                    | succ kj91 =>
                      have H := HA.out
                      clear HA
                      simp only [chamberlainlaw06_NetRoom.j3] at H
                      by_cases c215 : x119_91 = true
                      · subst c215
                        have H1 : (some false) = some r := by rw [if_pos rfl] at H; exact H
                        clear H
                        have H := H1
                        clear H1
                        exact absurd (hT.out.symm.trans (Option.some.inj H).symm) (by decide)
                      · replace c215 := Bool.eq_false_iff.mpr c215
                        subst c215
                        have H1 : (if t315 = 0 then ((net_Take.f t308 t309 t312 (l0_1.length : Int)).bind fun bt338 => (if bt338.2.2.2.2.2 = 0 then ((chamberlainref06_One.f kj91 t324 t325 bt338.2.2.2.1 bt338.2.2.2.2.1).bind fun t352 => (if t352 = true then ((chamberlainref06_Same.f kj91 bt338.1 bt338.2.1 bt338.2.2.1 a0_0 l0_1 l0_2).bind fun t353 => (some t353)) else (some false))) else (some false))) else (some true)) = some r := by rw [if_neg (show ¬ (false = true) by decide)] at H; exact H
                        clear H
                        have H := H1
                        clear H1
                        by_cases c216 : t315 = 0
                        · rw [if_pos c216] at H
                          have c216b0 : (t315 == 0) = true := beq_iff_eq.mpr c216
                          have c216b1 : (t315 != 0) = false := bne_eq_false_iff_eq.mpr c216
                          clear c216
                          replace H := Option.bind_eq_some_iff.mp H
                          obtain ⟨⟨t338, t339, t342, t345, t346, t349⟩, A2170, H⟩ := H
                          replace H : (if t349 = 0 then ((chamberlainref06_One.f kj91 t324 t325 t345 t346).bind fun t352 => (if t352 = true then ((chamberlainref06_Same.f kj91 t338 t339 t342 a0_0 l0_1 l0_2).bind fun t353 => (some t353)) else (some false))) else (some false)) = some r := H
                          have A217 := Aside0.mk A2170
                          clear A2170
                          by_cases c218 : t349 = 0
                          · rw [if_pos c218] at H
                            have c218b0 : (t349 == 0) = true := beq_iff_eq.mpr c218
                            have c218b1 : (t349 != 0) = false := bne_eq_false_iff_eq.mpr c218
                            clear c218
                            replace H := Option.bind_eq_some_iff.mp H
                            obtain ⟨t352, A2190, H⟩ := H
                            replace H : (if t352 = true then ((chamberlainref06_Same.f kj91 t338 t339 t342 a0_0 l0_1 l0_2).bind fun t353 => (some t353)) else (some false)) = some r := H
                            have A219 := Aside0.mk A2190
                            clear A2190
                            by_cases c220 : t352 = true
                            · subst c220
                              have H1 : ((chamberlainref06_Same.f kj91 t338 t339 t342 a0_0 l0_1 l0_2).bind fun t353 => (some t353)) = some r := by rw [if_pos rfl] at H; exact H
                              clear H
                              have H := H1
                              clear H1
                              replace H := Option.bind_eq_some_iff.mp H
                              obtain ⟨t353, A2210, H⟩ := H
                              replace H : (some t353) = some r := H
                              have A221 := Aside0.mk A2210
                              clear A2210
                              obtain rfl := Option.some.inj H
                              have hnb222 := NB316_292.out
                              have hnc222 := NB292_316.out
                              have hnb223 := NB316_293.out
                              have hnc223 := NB293_316.out
                              have hnb224 := NB316_307.out
                              have hnc224 := NB307_316.out
                              have hnb225 := NB316_329.out
                              have hnc225 := NB329_316.out
                              have hnb226 := NB316_330.out
                              have hnc226 := NB330_316.out
                              have ⟨hcz227_0, hcz227_1, hcz227_2⟩ := cz3_ BK316.out
                              have ⟨hfz227_0, hfz227_1, hfz227_2⟩ := fz3_ BK316.out
                              have hnb228 := NB292_293.out
                              have hnc228 := NB293_292.out
                              have hnb229 := NB292_307.out
                              have hnc229 := NB307_292.out
                              have hnb230 := NB292_329.out
                              have hnc230 := NB329_292.out
                              have hnb231 := NB292_330.out
                              have hnc231 := NB330_292.out
                              have ⟨hcz232_0, hcz232_1, hcz232_2⟩ := cz3_ BK292.out
                              have ⟨hfz232_0, hfz232_1, hfz232_2⟩ := fz3_ BK292.out
                              go_wp2_with (first | ((with_reducible refine gate_callee (f := 14) rfl ?_); refine goesL_ (some 127) rfl rfl Try.func14 (by kernel_rfl) rfl #[.agg #[.int .i64 t308, .slice Ao59 t309.length co59, .slice Ao60 t312.length co60], .int .i64 (l0_1.length : Int)] rfl (by (try simp only [List.map_toArray, List.map_cons, List.map_nil]); first | done | rfl | (simp only [List.length_drop, List.length_take]; rfl)) ?_; (with_reducible refine (net_Take.calls t308 (fun k_ => (k_ ≠ gb292 ∧ (k_ ≠ gb293 ∧ (k_ ≠ gb307 ∧ (k_ ≠ gb316 ∧ (k_ ≠ gb329 ∧ k_ ≠ gb330)))))) _ _ t309 (fun k_ => (k_ ≠ gb292 ∧ (k_ ≠ gb293 ∧ (k_ ≠ gb307 ∧ (k_ ≠ gb316 ∧ (k_ ≠ gb329 ∧ k_ ≠ gb330)))))) _ _ t312 (l0_1.length : Int) t338 t339 t342 t345 t346 t349 _ ?side1 ?side2 A217.out).mono ?_); (case side1 => exact HO_317001.out); (case side2 => exact HO_317002.out); rintro e w233 ⟨v340, v343, v347, rfl, ho0, ho1, ho2, hb⟩; refine ⟨_, rfl, ?_⟩; have n6_ := Aside0.mk (vb_ HO_331001.out hb); have n7_ := Aside0.mk (Kd.V_lower (Kd.V_mono (ok' := fun k_ => k_ ≠ gb292 ∧ k_ ≠ gb293 ∧ k_ ≠ gb307 ∧ k_ ≠ gb316 ∧ k_ ≠ gb329 ∧ k_ ≠ gb330) ho0 (fun k_ hk_ => ⟨Or.elim hk_ (fun hs_ => Or.elim hs_ (fun hs_ => hs_.1) (fun hs_ => hs_.1)) (fun hn_ => (fb_ BK292.out k_ hn_)), Or.elim hk_ (fun hs_ => Or.elim hs_ (fun hs_ => hs_.2.1) (fun hs_ => hs_.2.1)) (fun hn_ => (fb_ BK293.out k_ hn_)), Or.elim hk_ (fun hs_ => Or.elim hs_ (fun hs_ => hs_.2.2.1) (fun hs_ => hs_.2.2.1)) (fun hn_ => (fb_ BK307.out k_ hn_)), Or.elim hk_ (fun hs_ => Or.elim hs_ (fun hs_ => hs_.2.2.2.1) (fun hs_ => hs_.2.2.2.1)) (fun hn_ => (fb_ BK316.out k_ hn_)), Or.elim hk_ (fun hs_ => Or.elim hs_ (fun hs_ => hs_.2.2.2.2.1) (fun hs_ => hs_.2.2.2.2.1)) (fun hn_ => (fb_ BK329.out k_ hn_)), Or.elim hk_ (fun hs_ => Or.elim hs_ (fun hs_ => hs_.2.2.2.2.2) (fun hs_ => hs_.2.2.2.2.2)) (fun hn_ => (fb_ BK330.out k_ hn_))⟩)) (below_size (by repeat (first | (with_reducible first | exact HB.out | apply below_alloc | apply pw_below_drewN | apply below_drew1 | refine below_set ?_ GE292.out | refine below_set ?_ GE293.out | refine below_set ?_ GE307.out | refine below_set ?_ GE316.out | refine below_set ?_ GE329.out | refine below_set ?_ GE330.out) | exact HB.out)))); have n8_ := Aside0.mk (Kd.V_lower (Kd.V_mono (ok' := fun k_ => k_ ≠ gb292 ∧ k_ ≠ gb293 ∧ k_ ≠ gb307 ∧ k_ ≠ gb316 ∧ k_ ≠ gb329 ∧ k_ ≠ gb330) ho1 (fun k_ hk_ => ⟨Or.elim hk_ (fun hs_ => Or.elim hs_ (fun hs_ => hs_.1) (fun hs_ => hs_.1)) (fun hn_ => (fb_ BK292.out k_ hn_)), Or.elim hk_ (fun hs_ => Or.elim hs_ (fun hs_ => hs_.2.1) (fun hs_ => hs_.2.1)) (fun hn_ => (fb_ BK293.out k_ hn_)), Or.elim hk_ (fun hs_ => Or.elim hs_ (fun hs_ => hs_.2.2.1) (fun hs_ => hs_.2.2.1)) (fun hn_ => (fb_ BK307.out k_ hn_)), Or.elim hk_ (fun hs_ => Or.elim hs_ (fun hs_ => hs_.2.2.2.1) (fun hs_ => hs_.2.2.2.1)) (fun hn_ => (fb_ BK316.out k_ hn_)), Or.elim hk_ (fun hs_ => Or.elim hs_ (fun hs_ => hs_.2.2.2.2.1) (fun hs_ => hs_.2.2.2.2.1)) (fun hn_ => (fb_ BK329.out k_ hn_)), Or.elim hk_ (fun hs_ => Or.elim hs_ (fun hs_ => hs_.2.2.2.2.2) (fun hs_ => hs_.2.2.2.2.2)) (fun hn_ => (fb_ BK330.out k_ hn_))⟩)) (below_size (by repeat (first | (with_reducible first | exact HB.out | apply below_alloc | apply pw_below_drewN | apply below_drew1 | refine below_set ?_ GE292.out | refine below_set ?_ GE293.out | refine below_set ?_ GE307.out | refine below_set ?_ GE316.out | refine below_set ?_ GE329.out | refine below_set ?_ GE330.out) | exact HB.out)))); have n9_ := Aside0.mk (Kd.V_lower (Kd.V_mono (ok' := fun k_ => k_ ≠ gb292 ∧ k_ ≠ gb293 ∧ k_ ≠ gb307 ∧ k_ ≠ gb316 ∧ k_ ≠ gb329 ∧ k_ ≠ gb330) ho2 (fun k_ hk_ => ⟨Or.elim hk_ (fun hs_ => Or.elim hs_ (fun hs_ => hs_.1) (fun hs_ => hs_.1)) (fun hn_ => (fb_ BK292.out k_ hn_)), Or.elim hk_ (fun hs_ => Or.elim hs_ (fun hs_ => hs_.2.1) (fun hs_ => hs_.2.1)) (fun hn_ => (fb_ BK293.out k_ hn_)), Or.elim hk_ (fun hs_ => Or.elim hs_ (fun hs_ => hs_.2.2.1) (fun hs_ => hs_.2.2.1)) (fun hn_ => (fb_ BK307.out k_ hn_)), Or.elim hk_ (fun hs_ => Or.elim hs_ (fun hs_ => hs_.2.2.2.1) (fun hs_ => hs_.2.2.2.1)) (fun hn_ => (fb_ BK316.out k_ hn_)), Or.elim hk_ (fun hs_ => Or.elim hs_ (fun hs_ => hs_.2.2.2.2.1) (fun hs_ => hs_.2.2.2.2.1)) (fun hn_ => (fb_ BK329.out k_ hn_)), Or.elim hk_ (fun hs_ => Or.elim hs_ (fun hs_ => hs_.2.2.2.2.2) (fun hs_ => hs_.2.2.2.2.2)) (fun hn_ => (fb_ BK330.out k_ hn_))⟩)) (below_size (by repeat (first | (with_reducible first | exact HB.out | apply below_alloc | apply pw_below_drewN | apply below_drew1 | refine below_set ?_ GE292.out | refine below_set ?_ GE293.out | refine below_set ?_ GE307.out | refine below_set ?_ GE316.out | refine below_set ?_ GE329.out | refine below_set ?_ GE330.out) | exact HB.out)))); have n10_ := Aside0.mk (bb_ BK292.out hb); have n11_ := Aside0.mk (bb_ BK293.out hb); have n12_ := Aside0.mk (bb_ BK307.out hb); have n13_ := Aside0.mk (bb_ BK316.out hb); have n14_ := Aside0.mk (bb_ BK329.out hb); have n15_ := Aside0.mk (bb_ BK330.out hb); have n16_ := Aside0.mk (bs_ hb); clear HO_308001 HO_308002 HO_317001 HO_317002 HO_330001 HO_330002 HO_331001 BK292 BK293 BK307 BK316 BK329 BK330 HB; have HO_331001 := n6_; have HO341 := n7_; have HO344 := n8_; have HO348 := n9_; have BK292 := n10_; have BK293 := n11_; have BK307 := n12_; have BK316 := n13_; have BK329 := n14_; have BK330 := n15_; have HB := n16_; clear n6_ n7_ n8_ n9_ n10_ n11_ n12_ n13_ n14_ n15_ n16_; (try clear hb); (try clear hb2); (try clear hk); (try clear hi); (try clear ho0); (try clear ho1); (try clear ho2)) | ((with_reducible refine gate_dst (N := 16) rfl ?_); (try (refine gate_guard (by rfl) ?_; dsimp only)); refine box_event ?hg (N := 16) ?hd (cs := #[.int .i64 0, .slice none 0 0, .slice none 0 0]) (t := 25) ?hr ?_; (case hd => rfl); (case hg => rfl); (case hr => first | (go_simp; done) | (go_simp; rfl)); intro gb350 hg w234 hbox hb; have n6_ := Aside0.mk (ve_ HO_331001.out gb350 hg hb); have n7_ := Aside0.mk (ve_ HO341.out gb350 hg hb); have n8_ := Aside0.mk (ve_ HO344.out gb350 hg hb); have n9_ := Aside0.mk (ve_ HO348.out gb350 hg hb); have n10_ := Aside0.mk (bb_ BK292.out hb); have n11_ := Aside0.mk (bb_ BK293.out hb); have n12_ := Aside0.mk (bb_ BK307.out hb); have n13_ := Aside0.mk (bb_ BK316.out hb); have n14_ := Aside0.mk (bb_ BK329.out hb); have n15_ := Aside0.mk (bb_ BK330.out hb); have n16_ := Aside0.mk (bs_ hb); have n17_ := Aside0.mk (hbox); have n19_ := Aside0.mk ((ge_ hg : w.heap.size ≤ gb350)); have n20_ := Aside0.mk ((by rw [hg]; exact Nat.ne_of_lt (blk_lt (g := gb292) (o := .cells #[.int .i64 a0_0, .slice A0_1 l0_1.length c0_1, .slice A0_2 l0_2.length c0_2] 25 (0, 0)) (by (with_reducible repeat (first | refine blk_drewN ?_ _ | refine blk_drew ?_ | refine blk_alloc ?_ _)); exact BK292.out)) : gb292 ≠ gb350)); have n21_ := Aside0.mk ((by rw [hg]; exact Nat.ne_of_gt (blk_lt (g := gb292) (o := .cells #[.int .i64 a0_0, .slice A0_1 l0_1.length c0_1, .slice A0_2 l0_2.length c0_2] 25 (0, 0)) (by (with_reducible repeat (first | refine blk_drewN ?_ _ | refine blk_drew ?_ | refine blk_alloc ?_ _)); exact BK292.out)) : gb350 ≠ gb292)); have n22_ := Aside0.mk ((by rw [hg]; exact Nat.ne_of_lt (blk_lt (g := gb293) (o := .cells #[.int .u32 a1_0, .slice A1_1 l1_1.length c1_1] 29 (0, 0)) (by (with_reducible repeat (first | refine blk_drewN ?_ _ | refine blk_drew ?_ | refine blk_alloc ?_ _)); exact BK293.out)) : gb293 ≠ gb350)); have n23_ := Aside0.mk ((by rw [hg]; exact Nat.ne_of_gt (blk_lt (g := gb293) (o := .cells #[.int .u32 a1_0, .slice A1_1 l1_1.length c1_1] 29 (0, 0)) (by (with_reducible repeat (first | refine blk_drewN ?_ _ | refine blk_drew ?_ | refine blk_alloc ?_ _)); exact BK293.out)) : gb350 ≠ gb293)); have n24_ := Aside0.mk ((by rw [hg]; exact Nat.ne_of_lt (blk_lt (g := gb307) (o := .cells #[.int .i64 t299, .slice Ao49 t300.length co49, .slice Ao50 t303.length co50] 25 (0, 0)) (by (with_reducible repeat (first | refine blk_drewN ?_ _ | refine blk_drew ?_ | refine blk_alloc ?_ _)); exact BK307.out)) : gb307 ≠ gb350)); have n25_ := Aside0.mk ((by rw [hg]; exact Nat.ne_of_gt (blk_lt (g := gb307) (o := .cells #[.int .i64 t299, .slice Ao49 t300.length co49, .slice Ao50 t303.length co50] 25 (0, 0)) (by (with_reducible repeat (first | refine blk_drewN ?_ _ | refine blk_drew ?_ | refine blk_alloc ?_ _)); exact BK307.out)) : gb350 ≠ gb307)); have n26_ := Aside0.mk ((by rw [hg]; exact Nat.ne_of_lt (blk_lt (g := gb316) (o := .cells #[.int .i64 t308, .slice Ao59 t309.length co59, .slice Ao60 t312.length co60] 25 (0, 0)) (by (with_reducible repeat (first | refine blk_drewN ?_ _ | refine blk_drew ?_ | refine blk_alloc ?_ _)); exact BK316.out)) : gb316 ≠ gb350)); have n27_ := Aside0.mk ((by rw [hg]; exact Nat.ne_of_gt (blk_lt (g := gb316) (o := .cells #[.int .i64 t308, .slice Ao59 t309.length co59, .slice Ao60 t312.length co60] 25 (0, 0)) (by (with_reducible repeat (first | refine blk_drewN ?_ _ | refine blk_drew ?_ | refine blk_alloc ?_ _)); exact BK316.out)) : gb350 ≠ gb316)); have n28_ := Aside0.mk ((by rw [hg]; exact Nat.ne_of_lt (blk_lt (g := gb329) (o := .cells #[.int .i64 t317, .slice Ao72 t318.length co72, .slice Ao73 t321.length co73] 25 (0, 0)) (by (with_reducible repeat (first | refine blk_drewN ?_ _ | refine blk_drew ?_ | refine blk_alloc ?_ _)); exact BK329.out)) : gb329 ≠ gb350)); have n29_ := Aside0.mk ((by rw [hg]; exact Nat.ne_of_gt (blk_lt (g := gb329) (o := .cells #[.int .i64 t317, .slice Ao72 t318.length co72, .slice Ao73 t321.length co73] 25 (0, 0)) (by (with_reducible repeat (first | refine blk_drewN ?_ _ | refine blk_drew ?_ | refine blk_alloc ?_ _)); exact BK329.out)) : gb350 ≠ gb329)); have n30_ := Aside0.mk ((by rw [hg]; exact Nat.ne_of_lt (blk_lt (g := gb330) (o := .cells #[.int .u32 t324, .slice Ao79 t325.length co79] 29 (0, 0)) (by (with_reducible repeat (first | refine blk_drewN ?_ _ | refine blk_drew ?_ | refine blk_alloc ?_ _)); exact BK330.out)) : gb330 ≠ gb350)); have n31_ := Aside0.mk ((by rw [hg]; exact Nat.ne_of_gt (blk_lt (g := gb330) (o := .cells #[.int .u32 t324, .slice Ao79 t325.length co79] 29 (0, 0)) (by (with_reducible repeat (first | refine blk_drewN ?_ _ | refine blk_drew ?_ | refine blk_alloc ?_ _)); exact BK330.out)) : gb350 ≠ gb330)); clear HO_331001 HO341 HO344 HO348 BK292 BK293 BK307 BK316 BK329 BK330 HB; have HO_331001 := n6_; have HO341 := n7_; have HO344 := n8_; have HO348 := n9_; have BK292 := n10_; have BK293 := n11_; have BK307 := n12_; have BK316 := n13_; have BK329 := n14_; have BK330 := n15_; have HB := n16_; have BK350 := n17_; have GE350 := n19_; have NB292_350 := n20_; have NB350_292 := n21_; have NB293_350 := n22_; have NB350_293 := n23_; have NB307_350 := n24_; have NB350_307 := n25_; have NB316_350 := n26_; have NB350_316 := n27_; have NB329_350 := n28_; have NB350_329 := n29_; have NB330_350 := n30_; have NB350_330 := n31_; clear n6_ n7_ n8_ n9_ n10_ n11_ n12_ n13_ n14_ n15_ n16_ n17_ n19_ n20_ n21_ n22_ n23_ n24_ n25_ n26_ n27_ n28_ n29_ n30_ n31_; clear hb hbox hg) | ((with_reducible refine gate_dst (N := 17) rfl ?_); (try (refine gate_guard (by rfl) ?_; dsimp only)); refine box_event ?hg (N := 17) ?hd (cs := #[.int .u32 0, .slice none 0 0]) (t := 29) ?hr ?_; (case hd => rfl); (case hg => rfl); (case hr => first | (go_simp; done) | (go_simp; rfl)); intro gb351 hg w235 hbox hb; have n6_ := Aside0.mk (ve_ HO_331001.out gb351 hg hb); have n7_ := Aside0.mk (ve_ HO341.out gb351 hg hb); have n8_ := Aside0.mk (ve_ HO344.out gb351 hg hb); have n9_ := Aside0.mk (ve_ HO348.out gb351 hg hb); have n10_ := Aside0.mk (bb_ BK292.out hb); have n15_ := Aside0.mk (bb_ BK330.out hb); have n16_ := Aside0.mk (bb_ BK350.out hb); have n17_ := Aside0.mk (bs_ hb); have n18_ := Aside0.mk (hbox); have n20_ := Aside0.mk ((ge_ hg : w.heap.size ≤ gb351)); have n21_ := Aside0.mk ((by rw [hg]; exact Nat.ne_of_lt (blk_lt (g := gb292) (o := .cells #[.int .i64 a0_0, .slice A0_1 l0_1.length c0_1, .slice A0_2 l0_2.length c0_2] 25 (0, 0)) (by (with_reducible repeat (first | refine blk_drewN ?_ _ | refine blk_drew ?_ | refine blk_alloc ?_ _)); exact BK292.out)) : gb292 ≠ gb351)); have n22_ := Aside0.mk ((by rw [hg]; exact Nat.ne_of_gt (blk_lt (g := gb292) (o := .cells #[.int .i64 a0_0, .slice A0_1 l0_1.length c0_1, .slice A0_2 l0_2.length c0_2] 25 (0, 0)) (by (with_reducible repeat (first | refine blk_drewN ?_ _ | refine blk_drew ?_ | refine blk_alloc ?_ _)); exact BK292.out)) : gb351 ≠ gb292)); have n23_ := Aside0.mk ((by rw [hg]; exact Nat.ne_of_lt (blk_lt (g := gb293) (o := .cells #[.int .u32 a1_0, .slice A1_1 l1_1.length c1_1] 29 (0, 0)) (by (with_reducible repeat (first | refine blk_drewN ?_ _ | refine blk_drew ?_ | refine blk_alloc ?_ _)); exact BK293.out)) : gb293 ≠ gb351)); have n24_ := Aside0.mk ((by rw [hg]; exact Nat.ne_of_gt (blk_lt (g := gb293) (o := .cells #[.int .u32 a1_0, .slice A1_1 l1_1.length c1_1] 29 (0, 0)) (by (with_reducible repeat (first | refine blk_drewN ?_ _ | refine blk_drew ?_ | refine blk_alloc ?_ _)); exact BK293.out)) : gb351 ≠ gb293)); have n25_ := Aside0.mk ((by rw [hg]; exact Nat.ne_of_lt (blk_lt (g := gb307) (o := .cells #[.int .i64 t299, .slice Ao49 t300.length co49, .slice Ao50 t303.length co50] 25 (0, 0)) (by (with_reducible repeat (first | refine blk_drewN ?_ _ | refine blk_drew ?_ | refine blk_alloc ?_ _)); exact BK307.out)) : gb307 ≠ gb351)); have n26_ := Aside0.mk ((by rw [hg]; exact Nat.ne_of_gt (blk_lt (g := gb307) (o := .cells #[.int .i64 t299, .slice Ao49 t300.length co49, .slice Ao50 t303.length co50] 25 (0, 0)) (by (with_reducible repeat (first | refine blk_drewN ?_ _ | refine blk_drew ?_ | refine blk_alloc ?_ _)); exact BK307.out)) : gb351 ≠ gb307)); have n27_ := Aside0.mk ((by rw [hg]; exact Nat.ne_of_lt (blk_lt (g := gb316) (o := .cells #[.int .i64 t308, .slice Ao59 t309.length co59, .slice Ao60 t312.length co60] 25 (0, 0)) (by (with_reducible repeat (first | refine blk_drewN ?_ _ | refine blk_drew ?_ | refine blk_alloc ?_ _)); exact BK316.out)) : gb316 ≠ gb351)); have n28_ := Aside0.mk ((by rw [hg]; exact Nat.ne_of_gt (blk_lt (g := gb316) (o := .cells #[.int .i64 t308, .slice Ao59 t309.length co59, .slice Ao60 t312.length co60] 25 (0, 0)) (by (with_reducible repeat (first | refine blk_drewN ?_ _ | refine blk_drew ?_ | refine blk_alloc ?_ _)); exact BK316.out)) : gb351 ≠ gb316)); have n29_ := Aside0.mk ((by rw [hg]; exact Nat.ne_of_lt (blk_lt (g := gb329) (o := .cells #[.int .i64 t317, .slice Ao72 t318.length co72, .slice Ao73 t321.length co73] 25 (0, 0)) (by (with_reducible repeat (first | refine blk_drewN ?_ _ | refine blk_drew ?_ | refine blk_alloc ?_ _)); exact BK329.out)) : gb329 ≠ gb351)); have n30_ := Aside0.mk ((by rw [hg]; exact Nat.ne_of_gt (blk_lt (g := gb329) (o := .cells #[.int .i64 t317, .slice Ao72 t318.length co72, .slice Ao73 t321.length co73] 25 (0, 0)) (by (with_reducible repeat (first | refine blk_drewN ?_ _ | refine blk_drew ?_ | refine blk_alloc ?_ _)); exact BK329.out)) : gb351 ≠ gb329)); have n31_ := Aside0.mk ((by rw [hg]; exact Nat.ne_of_lt (blk_lt (g := gb330) (o := .cells #[.int .u32 t324, .slice Ao79 t325.length co79] 29 (0, 0)) (by (with_reducible repeat (first | refine blk_drewN ?_ _ | refine blk_drew ?_ | refine blk_alloc ?_ _)); exact BK330.out)) : gb330 ≠ gb351)); have n32_ := Aside0.mk ((by rw [hg]; exact Nat.ne_of_gt (blk_lt (g := gb330) (o := .cells #[.int .u32 t324, .slice Ao79 t325.length co79] 29 (0, 0)) (by (with_reducible repeat (first | refine blk_drewN ?_ _ | refine blk_drew ?_ | refine blk_alloc ?_ _)); exact BK330.out)) : gb351 ≠ gb330)); have n33_ := Aside0.mk ((by rw [hg]; exact Nat.ne_of_lt (blk_lt (g := gb350) (o := .cells #[.int .i64 0, .slice none 0 0, .slice none 0 0] 25 (0, 0)) (by (with_reducible repeat (first | refine blk_drewN ?_ _ | refine blk_drew ?_ | refine blk_alloc ?_ _)); exact BK350.out)) : gb350 ≠ gb351)); have n34_ := Aside0.mk ((by rw [hg]; exact Nat.ne_of_gt (blk_lt (g := gb350) (o := .cells #[.int .i64 0, .slice none 0 0, .slice none 0 0] 25 (0, 0)) (by (with_reducible repeat (first | refine blk_drewN ?_ _ | refine blk_drew ?_ | refine blk_alloc ?_ _)); exact BK350.out)) : gb351 ≠ gb350)); clear HO_331001 HO341 HO344 HO348 BK292 BK293 BK307 BK316 BK329 BK330 BK350 HB; have HO_331001 := n6_; have HO341 := n7_; have HO344 := n8_; have HO348 := n9_; have BK292 := n10_; have BK330 := n15_; have BK350 := n16_; have HB := n17_; have BK351 := n18_; have GE351 := n20_; have NB292_351 := n21_; have NB351_292 := n22_; have NB293_351 := n23_; have NB351_293 := n24_; have NB307_351 := n25_; have NB351_307 := n26_; have NB316_351 := n27_; have NB351_316 := n28_; have NB329_351 := n29_; have NB351_329 := n30_; have NB330_351 := n31_; have NB351_330 := n32_; have NB350_351 := n33_; have NB351_350 := n34_; clear n6_ n7_ n8_ n9_ n10_ n15_ n16_ n17_ n18_ n20_ n21_ n22_ n23_ n24_ n25_ n26_ n27_ n28_ n29_ n30_ n31_ n32_ n33_ n34_; clear hb hbox hg; have hnb236 := NB350_292.out; have hnc236 := NB292_350.out; have hnb237 := NB350_293.out; have hnc237 := NB293_350.out; have hnb238 := NB350_307.out; have hnc238 := NB307_350.out; have hnb239 := NB350_316.out; have hnc239 := NB316_350.out; have hnb240 := NB350_329.out; have hnc240 := NB329_350.out; have hnb241 := NB350_330.out; have hnc241 := NB330_350.out; have hnb242 := NB350_351.out; have hnc242 := NB351_350.out; have ⟨hcz243_0, hcz243_1, hcz243_2⟩ := cz3_ BK350.out; have ⟨hfz243_0, hfz243_1, hfz243_2⟩ := fz3_ BK350.out; obtain ⟨Ao244, co244, eo244⟩ := Kd.V_slice HO341.out; subst eo244; obtain ⟨Ao245, co245, eo245⟩ := Kd.V_slice HO344.out; subst eo245; have hnb246 := NB351_292.out; have hnc246 := NB292_351.out; have hnb247 := NB351_293.out; have hnc247 := NB293_351.out; have hnb248 := NB351_307.out; have hnc248 := NB307_351.out; have hnb249 := NB351_316.out; have hnc249 := NB316_351.out; have hnb250 := NB351_329.out; have hnc250 := NB329_351.out; have hnb251 := NB351_330.out; have hnc251 := NB330_351.out; have ⟨hcz252_0, hcz252_1⟩ := cz2_ BK351.out; have ⟨hfz252_0, hfz252_1⟩ := fz2_ BK351.out; obtain ⟨Ao253, co253, eo253⟩ := Kd.V_slice HO348.out; subst eo253; have hnb254 := NB330_293.out; have hnc254 := NB293_330.out; have hnb255 := NB330_307.out; have hnc255 := NB307_330.out; have hnb256 := NB330_329.out; have hnc256 := NB329_330.out; have ⟨hcz257_0, hcz257_1⟩ := cz2_ BK330.out; have ⟨hfz257_0, hfz257_1⟩ := fz2_ BK330.out) | (go_at_call 19; (with_reducible refine (chamberlainref06_One.calls kj91 t324 _ _ t325 t345 _ _ t346 true _ ?side1 ?side2 ?side3 ?side4 A219.out).mono ?_); (case side1 => refine (Kd.V_reads' (e := 26) (base := w.heap.size) (ok := fun k_ => (((k_ ≠ gb292 ∧ (k_ ≠ gb293 ∧ (k_ ≠ gb307 ∧ (k_ ≠ gb316 ∧ (k_ ≠ gb329 ∧ k_ ≠ gb330))))) ∧ k_ ≠ gb350) ∧ k_ ≠ gb351)) (n := t325.length) (c := co79) ?_).2.2; exact (by (with_reducible repeat (first | apply Kd.V_alloc | apply Kd.V_drewN | apply Kd.V_drew)); exact (Kd.V_mono (Kd.V_mono (v2_ (g := gb351) (Kd.V_far (p := ⟨gb350, 2, none⟩) (Kd.V_far (p := ⟨gb350, 1, none⟩) (Kd.V_far (p := ⟨gb350, 0, none⟩) (Kd.V_mono (Kd.V_mono HO_331001.out (fun k_ hk => (⟨hk, hk.1.2⟩ : _ ∧ k_ ≠ gb350))) (fun k_ hk => (⟨hk, hk.1.2⟩ : _ ∧ k_ ≠ gb351))) (fun _ hk => hk.1.2) (.int .i64 t338)) (fun _ hk => hk.1.2) (.slice Ao244 t339.length co244)) (fun _ hk => hk.1.2) (.slice Ao245 t342.length co245))) (fun _ h_ => h_.1)) (fun _ h_ => h_.1)))); (case side2 => exact (Kd.V_reads' HO_331001.out).2.1); (case side3 => refine (Kd.V_reads' (e := 26) (base := w.heap.size) (ok := fun k_ => (((k_ ≠ gb292 ∧ (k_ ≠ gb293 ∧ (k_ ≠ gb307 ∧ (k_ ≠ gb316 ∧ (k_ ≠ gb329 ∧ k_ ≠ gb330))))) ∧ k_ ≠ gb350) ∧ k_ ≠ gb351)) (n := t346.length) (c := co253) ?_).2.2; exact (by (with_reducible repeat (first | apply Kd.V_alloc | apply Kd.V_drewN | apply Kd.V_drew)); exact (Kd.V_mono (Kd.V_mono (v2_ (g := gb351) (Kd.V_far (p := ⟨gb350, 2, none⟩) (Kd.V_far (p := ⟨gb350, 1, none⟩) (Kd.V_far (p := ⟨gb350, 0, none⟩) (Kd.V_mono (Kd.V_mono HO348.out (fun k_ hk => (⟨hk, hk.1.2⟩ : _ ∧ k_ ≠ gb350))) (fun k_ hk => (⟨hk, hk.1.2⟩ : _ ∧ k_ ≠ gb351))) (fun _ hk => hk.1.2) (.int .i64 t338)) (fun _ hk => hk.1.2) (.slice Ao244 t339.length co244)) (fun _ hk => hk.1.2) (.slice Ao245 t342.length co245))) (fun _ h_ => h_.1)) (fun _ h_ => h_.1)))); (case side4 => exact (Kd.V_reads' HO348.out).2.1); rintro e w258 ⟨rfl, hb⟩; have n7_ := Aside0.mk (Kd.V_below (by (with_reducible repeat (first | apply Kd.V_alloc | apply Kd.V_drewN | apply Kd.V_drew)); exact (Kd.V_mono (Kd.V_mono (v2_ (g := gb351) (Kd.V_far (p := ⟨gb350, 2, none⟩) (Kd.V_far (p := ⟨gb350, 1, none⟩) (Kd.V_far (p := ⟨gb350, 0, none⟩) (Kd.V_mono (Kd.V_mono HO341.out (fun k_ hk => (⟨hk, hk.1.2⟩ : _ ∧ k_ ≠ gb350))) (fun k_ hk => (⟨hk, hk.1.2⟩ : _ ∧ k_ ≠ gb351))) (fun _ hk => hk.1.2) (.int .i64 t338)) (fun _ hk => hk.1.2) (.slice Ao244 t339.length co244)) (fun _ hk => hk.1.2) (.slice Ao245 t342.length co245))) (fun _ h_ => h_.1)) (fun _ h_ => h_.1))) hb); have n8_ := Aside0.mk (Kd.V_below (by (with_reducible repeat (first | apply Kd.V_alloc | apply Kd.V_drewN | apply Kd.V_drew)); exact (Kd.V_mono (Kd.V_mono (v2_ (g := gb351) (Kd.V_far (p := ⟨gb350, 2, none⟩) (Kd.V_far (p := ⟨gb350, 1, none⟩) (Kd.V_far (p := ⟨gb350, 0, none⟩) (Kd.V_mono (Kd.V_mono HO344.out (fun k_ hk => (⟨hk, hk.1.2⟩ : _ ∧ k_ ≠ gb350))) (fun k_ hk => (⟨hk, hk.1.2⟩ : _ ∧ k_ ≠ gb351))) (fun _ hk => hk.1.2) (.int .i64 t338)) (fun _ hk => hk.1.2) (.slice Ao244 t339.length co244)) (fun _ hk => hk.1.2) (.slice Ao245 t342.length co245))) (fun _ h_ => h_.1)) (fun _ h_ => h_.1))) hb); have n10_ := Aside0.mk (blk_below (g := gb292) (o := .cells #[.int .i64 a0_0, .slice A0_1 l0_1.length c0_1, .slice A0_2 l0_2.length c0_2] 25 (0, 0)) (by (with_reducible repeat (first | refine blk_drewN ?_ _ | refine blk_drew ?_ | refine blk_alloc ?_ _)); refine blk_far ?_ NB292_351.out _; (with_reducible repeat (first | refine blk_drewN ?_ _ | refine blk_drew ?_ | refine blk_alloc ?_ _)); refine blk_far ?_ NB292_351.out _; (with_reducible repeat (first | refine blk_drewN ?_ _ | refine blk_drew ?_ | refine blk_alloc ?_ _)); refine blk_far ?_ NB292_350.out _; (with_reducible repeat (first | refine blk_drewN ?_ _ | refine blk_drew ?_ | refine blk_alloc ?_ _)); refine blk_far ?_ NB292_350.out _; (with_reducible repeat (first | refine blk_drewN ?_ _ | refine blk_drew ?_ | refine blk_alloc ?_ _)); refine blk_far ?_ NB292_350.out _; (with_reducible repeat (first | refine blk_drewN ?_ _ | refine blk_drew ?_ | refine blk_alloc ?_ _)); exact BK292.out) hb); have n16_ := Aside0.mk (blk_below (g := gb350) (o := .cells #[.int .i64 t338, .slice Ao244 t339.length co244, .slice Ao245 t342.length co245] 25 (0, 0)) (by (with_reducible repeat (first | refine blk_drewN ?_ _ | refine blk_drew ?_ | refine blk_alloc ?_ _)); refine blk_far ?_ NB350_351.out _; (with_reducible repeat (first | refine blk_drewN ?_ _ | refine blk_drew ?_ | refine blk_alloc ?_ _)); refine blk_far ?_ NB350_351.out _; (with_reducible repeat (first | refine blk_drewN ?_ _ | refine blk_drew ?_ | refine blk_alloc ?_ _)); refine blk_put (cs := #[.int .i64 t338, .slice Ao244 t339.length co244, .slice none 0 0]) ?_ 2 _ rfl; (with_reducible repeat (first | refine blk_drewN ?_ _ | refine blk_drew ?_ | refine blk_alloc ?_ _)); refine blk_put (cs := #[.int .i64 t338, .slice none 0 0, .slice none 0 0]) ?_ 1 _ rfl; (with_reducible repeat (first | refine blk_drewN ?_ _ | refine blk_drew ?_ | refine blk_alloc ?_ _)); refine blk_put (cs := #[.int .i64 0, .slice none 0 0, .slice none 0 0]) ?_ 0 _ rfl; (with_reducible repeat (first | refine blk_drewN ?_ _ | refine blk_drew ?_ | refine blk_alloc ?_ _)); exact BK350.out) hb); have n18_ := Aside0.mk (bs_ hb); clear HO_331001 HO341 HO344 HO348 BK292 BK330 BK350 BK351 HB; have HO341 := n7_; have HO344 := n8_; have BK292 := n10_; have BK350 := n16_; have HB := n18_; clear n7_ n8_ n10_ n16_ n18_; (try clear hb); (try clear hb2); (try clear hk); (try clear hi); have ⟨hcz259_0, hcz259_1, hcz259_2⟩ := cz3_ BK350.out; have ⟨hfz259_0, hfz259_1, hfz259_2⟩ := fz3_ BK350.out; have ⟨hcz260_0, hcz260_1, hcz260_2⟩ := cz3_ BK292.out; have ⟨hfz260_0, hfz260_1, hfz260_2⟩ := fz3_ BK292.out) | (go_at_call 18; (with_reducible refine (chamberlainref06_Same.calls kj91 t338 _ _ t339 _ _ t342 a0_0 _ _ l0_1 _ _ l0_2 t353 _ ?side1 ?side2 ?side3 ?side4 ?side5 ?side6 ?side7 ?side8 A221.out).mono ?_); (case side1 => repeat (first | exact (Kd.V_reads' HO341.out).2.2 | (with_reducible refine Kd.C_alloc ?_ _) | (with_reducible refine Kd.C_drewN ?_ _) | (with_reducible refine Kd.C_drew ?_))); (case side2 => exact (Kd.V_reads' HO341.out).2.1); (case side3 => repeat (first | exact (Kd.V_reads' HO344.out).2.2 | (with_reducible refine Kd.C_alloc ?_ _) | (with_reducible refine Kd.C_drewN ?_ _) | (with_reducible refine Kd.C_drew ?_))); (case side4 => exact (Kd.V_reads' HO344.out).2.1); (case side5 => repeat (first | exact (Kd.C_below HR0_1.out HB.out) | (with_reducible refine Kd.C_alloc ?_ _) | (with_reducible refine Kd.C_drewN ?_ _) | (with_reducible refine Kd.C_drew ?_))); (case side6 => exact HC0_1.out); (case side7 => repeat (first | exact (Kd.C_below HR0_2.out HB.out) | (with_reducible refine Kd.C_alloc ?_ _) | (with_reducible refine Kd.C_drewN ?_ _) | (with_reducible refine Kd.C_drew ?_))); (case side8 => exact HC0_2.out); rintro e w261 ⟨rfl, hb⟩; have n18_ := Aside0.mk (bs_ hb); clear HO341 HO344 BK292 BK350 HB; have HB := n18_; clear n18_; (try clear hb); (try clear hb2); (try clear hk); (try clear hi)))
                              go_ret
                              exact ⟨by first | rfl | (simp [errW_none, errW_some] <;> rfl) | (simp [*, errW_none, errW_some] <;> rfl), by repeat (first | (with_reducible first | exact HB.out | apply below_alloc | apply pw_below_drewN | apply below_drew1 | refine below_set ?_ GE292.out | refine below_set ?_ GE293.out | refine below_set ?_ GE307.out | refine below_set ?_ GE316.out | refine below_set ?_ GE329.out | refine below_set ?_ GE330.out | refine below_set ?_ GE350.out | refine below_set ?_ GE351.out) | exact HB.out)⟩
                            · replace c220 := Bool.eq_false_iff.mpr c220
                              subst c220
                              have H1 : (some false) = some r := by rw [if_neg (show ¬ (false = true) by decide)] at H; exact H
                              clear H
                              have H := H1
                              clear H1
                              exact absurd (hT.out.symm.trans (Option.some.inj H).symm) (by decide)
                          · rw [if_neg c218] at H
                            have c218b0 : (t349 == 0) = false := beq_eq_false_iff_ne.mpr c218
                            have c218b1 : (t349 != 0) = true := bne_iff_ne.mpr c218
                            exact absurd (hT.out.symm.trans (Option.some.inj H).symm) (by decide)
                        · rw [if_neg c216] at H
                          have c216b0 : (t315 == 0) = false := beq_eq_false_iff_ne.mpr c216
                          have c216b1 : (t315 != 0) = true := bne_iff_ne.mpr c216
                          obtain rfl := Option.some.inj H
                          go_wp2
                          go_ret
                          exact ⟨by first | rfl | (simp [errW_none, errW_some] <;> rfl) | (simp [*, errW_none, errW_some] <;> rfl), by repeat (first | (with_reducible first | exact HB.out | apply below_alloc | apply pw_below_drewN | apply below_drew1 | refine below_set ?_ GE292.out | refine below_set ?_ GE293.out | refine below_set ?_ GE307.out | refine below_set ?_ GE316.out | refine below_set ?_ GE329.out | refine below_set ?_ GE330.out) | exact HB.out)⟩

end Go.Proofs.Ytlbfdmoocgjiaaa.PNetRoom
