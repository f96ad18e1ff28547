-- Written for this claim by wip/tools/myprint.py (print.py's forms; proofs of the faked functions by hand).
import Derived.Test.YtjhopebkflgcbaaPRunsDoesx0
import Derived.Test.YtjhopebkflgcbaaPRunsDoesx2
import Derived.Test.YtjhopebkflgcbaaPRunsDoesx3
import Derived.Test.YtjhopebkflgcbaaPRunsDoesx4
import Derived.Test.YtjhopebkflgcbaaPRunsDoesx5
import Derived.Test.YtjhopebkflgcbaaPRunsDoesx6
namespace Go.Proofs.Ytjhopebkflgcbaa.PRunsDoes
open Go.RowKit Go.Proofs.YtjhopebkflgcbaaW.PrintWords Go.Proofs.YtjhopebkflgcbaaW.PrintLast Go.Proofs.YtjhopebkflgcbaaW.PrintMore
attribute [local go_sem] max2_int min2_int max_two min_two max_three min_three max_four min_four   -- for this text's walks alone
set_option linter.unusedVariables false
set_option linter.unusedSimpArgs false

/-! ### chamberlainlaw09_RunsDoes: function 3 -/
mutual
def chamberlainlaw09_RunsDoes.j0 : Nat → List (S25) → Int → Int → Int → Int → Int → Bool → Int → Int → Int → Int → Int → Int → Int → Int → Int → Option (Bool)
  | 0, _, _, _, _, _, _, _, _, _, _, _, _, _, _, _, _ => none
  | k + 1, x0, x1, x3, x4, x5, x6, x33, x213000, x213001, x213002, x213003, x213004, x213005, x213006, x213007, x213008 => if x33 = true then ((chamberlainlaw09_awake.f k).bind fun t214 => (some t214)) else ((runs_Right.f k x0 x1).bind fun t215 => ((chamberlainref09_Right.f k x0 x1).bind fun t216 => (if (t215 != t216) = true then (chamberlainlaw09_RunsDoes.j1 k x0 x1 x3 x4 x5 x6 true x213000 x213001 x213002 x213003 x213004 x213005 x213006 x213007 x213008) else ((runs_May.f x213000 x213001 x213002 x213003 x213004 x213005 x213006 x213007 x213008).bind fun t217 => ((chamberlainref09_May.f x213000 x213001 x213002 x213003 x213004 x213005 x213006 x213007 x213008).bind fun t218 => (if (t217 != t218) = true then (chamberlainlaw09_RunsDoes.j1 k x0 x1 x3 x4 x5 x6 true x213000 x213001 x213002 x213003 x213004 x213005 x213006 x213007 x213008) else ((chamberlainref09_Right.f k x0 x1).bind fun t219 => (chamberlainlaw09_RunsDoes.j1 k x0 x1 x3 x4 x5 x6 (!t219) x213000 x213001 x213002 x213003 x213004 x213005 x213006 x213007 x213008))))))))
def chamberlainlaw09_RunsDoes.j1 : Nat → List (S25) → Int → Int → Int → Int → Int → Bool → Int → Int → Int → Int → Int → Int → Int → Int → Int → Option (Bool)
  | 0, _, _, _, _, _, _, _, _, _, _, _, _, _, _, _, _ => none
  | k + 1, x0, x1, x3, x4, x5, x6, x54, x213000, x213001, x213002, x213003, x213004, x213005, x213006, x213007, x213008 => if x54 = true then ((runs_Right.f k x0 x1).bind fun t220 => ((chamberlainref09_Right.f k x0 x1).bind fun t221 => (if (t220 == t221) = true then ((runs_May.f x213000 x213001 x213002 x213003 x213004 x213005 x213006 x213007 x213008).bind fun t222 => ((chamberlainref09_May.f x213000 x213001 x213002 x213003 x213004 x213005 x213006 x213007 x213008).bind fun t223 => (some (t222 == t223)))) else (some false)))) else ((runs_Add.f k x0 x1 x213000 x213001 x213002 x213003 x213004 x213005 x213006 x213007 x213008).bind fun bt224 => ((chamberlainref09_Add.f x0 x1 x213000 x213001 x213002 x213003 x213004 x213005 x213006 x213007 x213008).bind fun bt228 => ((runs_Set.f x0 x3 x213000 x213001 x213002 x213003 x213004 x213005 x213006 x213007 x213008).bind fun bt232 => ((chamberlainref09_Set.f k x0 x3 x213000 x213001 x213002 x213003 x213004 x213005 x213006 x213007 x213008).bind fun bt236 => ((runs_Next.f k x0 x3 x4 x5 x6).bind fun bt240 => ((chamberlainref09_Next.f k x0 x3 x4 x5 x6).bind fun bt242 => ((chamberlainref09_Same.f k bt224.1 bt228.1).bind fun t244 => (if t244 = true then (if bt224.2 = bt228.2 then ((chamberlainref09_Same.f k bt232.1 bt236.1).bind fun t245 => (if t245 = true then (if bt232.2 = bt236.2 then (if bt240.1 = bt242.1 then (some (bt240.2 == bt242.2)) else (some false)) else (some false)) else (some false))) else (some false)) else (some false)))))))))
end
def chamberlainlaw09_RunsDoes.f (k : Nat) (l0 : List (S25)) (a1 : Int) (a2_0 : Int) (a2_1 : Int) (a2_2 : Int) (a2_3 : Int) (a2_4 : Int) (a2_5 : Int) (a2_6 : Int) (a2_7 : Int) (a2_8 : Int) (a3 : Int) (a4 : Int) (a5 : Int) (a6 : Int) : Option (Bool) := (chamberlainlaw09_awake.f k).bind fun t213 => (if t213 = true then (chamberlainlaw09_RunsDoes.j0 k l0 a1 a3 a4 a5 a6 (decide ((l0.length : Int) > 100)) a2_0 a2_1 a2_2 a2_3 a2_4 a2_5 a2_6 a2_7 a2_8) else (chamberlainlaw09_RunsDoes.j0 k l0 a1 a3 a4 a5 a6 true a2_0 a2_1 a2_2 a2_3 a2_4 a2_5 a2_6 a2_7 a2_8))
theorem chamberlainlaw09_RunsDoes.mono_l : ∀ k, (∀ y0 y1 y2 y3 y4 y5 y6 y7 y8 y9 y10 y11 y12 y13 y14 y15, LeO (chamberlainlaw09_RunsDoes.j0 k y0 y1 y2 y3 y4 y5 y6 y7 y8 y9 y10 y11 y12 y13 y14 y15) (chamberlainlaw09_RunsDoes.j0 (k + 1) y0 y1 y2 y3 y4 y5 y6 y7 y8 y9 y10 y11 y12 y13 y14 y15)) ∧ (∀ y0 y1 y2 y3 y4 y5 y6 y7 y8 y9 y10 y11 y12 y13 y14 y15, LeO (chamberlainlaw09_RunsDoes.j1 k y0 y1 y2 y3 y4 y5 y6 y7 y8 y9 y10 y11 y12 y13 y14 y15) (chamberlainlaw09_RunsDoes.j1 (k + 1) y0 y1 y2 y3 y4 y5 y6 y7 y8 y9 y10 y11 y12 y13 y14 y15))
  | 0 => ⟨fun _ _ _ _ _ _ _ _ _ _ _ _ _ _ _ _ r h => by simp [chamberlainlaw09_RunsDoes.j0] at h, fun _ _ _ _ _ _ _ _ _ _ _ _ _ _ _ _ r h => by simp [chamberlainlaw09_RunsDoes.j1] at h⟩
  | k + 1 => by
    obtain ⟨ih0, ih1⟩ := chamberlainlaw09_RunsDoes.mono_l k
    refine ⟨?_, ?_⟩
    · intro y0 y1 y2 y3 y4 y5 y6 y7 y8 y9 y10 y11 y12 y13 y14 y15
      unfold chamberlainlaw09_RunsDoes.j0
      repeat' first
      | (with_reducible exact ih0 _ _ _ _ _ _ _ _ _ _ _ _ _ _ _ _)
      | (with_reducible exact ih1 _ _ _ _ _ _ _ _ _ _ _ _ _ _ _ _)
      | (with_reducible exact chamberlainlaw09_awake.mono _)
      | (with_reducible exact chamberlainref09_Next.mono _ _ _ _ _ _)
      | (with_reducible exact chamberlainref09_Right.mono _ _ _)
      | (with_reducible exact chamberlainref09_Same.mono _ _ _)
      | (with_reducible exact chamberlainref09_Set.mono _ _ _ _ _ _ _ _ _ _ _ _)
      | (with_reducible exact runs_Add.mono _ _ _ _ _ _ _ _ _ _ _ _)
      | (with_reducible exact runs_Next.mono _ _ _ _ _ _)
      | (with_reducible exact runs_Right.mono _ _ _)
      | (with_reducible exact LeO.refl _)
      | (with_reducible exact LeO.none _)
      | (with_reducible refine LeO.ite ?_ ?_)
      | (with_reducible refine LeO.bind ?_ (fun _ => ?_))
      | exact ih0 _ _ _ _ _ _ _ _ _ _ _ _ _ _ _ _
      | exact ih1 _ _ _ _ _ _ _ _ _ _ _ _ _ _ _ _
      | exact chamberlainlaw09_awake.mono _
      | exact chamberlainref09_Next.mono _ _ _ _ _ _
      | exact chamberlainref09_Right.mono _ _ _
      | exact chamberlainref09_Same.mono _ _ _
      | exact chamberlainref09_Set.mono _ _ _ _ _ _ _ _ _ _ _ _
      | exact runs_Add.mono _ _ _ _ _ _ _ _ _ _ _ _
      | exact runs_Next.mono _ _ _ _ _ _
      | exact runs_Right.mono _ _ _
      | exact LeO.none _
      | refine LeO.ite ?_ ?_
      | refine LeO.bind ?_ (fun _ => ?_)
    · intro y0 y1 y2 y3 y4 y5 y6 y7 y8 y9 y10 y11 y12 y13 y14 y15
      unfold chamberlainlaw09_RunsDoes.j1
      repeat' first
      | (with_reducible exact ih0 _ _ _ _ _ _ _ _ _ _ _ _ _ _ _ _)
      | (with_reducible exact ih1 _ _ _ _ _ _ _ _ _ _ _ _ _ _ _ _)
      | (with_reducible exact chamberlainlaw09_awake.mono _)
      | (with_reducible exact chamberlainref09_Next.mono _ _ _ _ _ _)
      | (with_reducible exact chamberlainref09_Right.mono _ _ _)
      | (with_reducible exact chamberlainref09_Same.mono _ _ _)
      | (with_reducible exact chamberlainref09_Set.mono _ _ _ _ _ _ _ _ _ _ _ _)
      | (with_reducible exact runs_Add.mono _ _ _ _ _ _ _ _ _ _ _ _)
      | (with_reducible exact runs_Next.mono _ _ _ _ _ _)
      | (with_reducible exact runs_Right.mono _ _ _)
      | (with_reducible exact LeO.refl _)
      | (with_reducible exact LeO.none _)
      | (with_reducible refine LeO.ite ?_ ?_)
      | (with_reducible refine LeO.bind ?_ (fun _ => ?_))
      | exact ih0 _ _ _ _ _ _ _ _ _ _ _ _ _ _ _ _
      | exact ih1 _ _ _ _ _ _ _ _ _ _ _ _ _ _ _ _
      | exact chamberlainlaw09_awake.mono _
      | exact chamberlainref09_Next.mono _ _ _ _ _ _
      | exact chamberlainref09_Right.mono _ _ _
      | exact chamberlainref09_Same.mono _ _ _
      | exact chamberlainref09_Set.mono _ _ _ _ _ _ _ _ _ _ _ _
      | exact runs_Add.mono _ _ _ _ _ _ _ _ _ _ _ _
      | exact runs_Next.mono _ _ _ _ _ _
      | exact runs_Right.mono _ _ _
      | exact LeO.none _
      | refine LeO.ite ?_ ?_
      | refine LeO.bind ?_ (fun _ => ?_)
theorem chamberlainlaw09_RunsDoes.mono : ∀ a0 a1 a2 a3 a4 a5 a6 a7 a8 a9 a10 a11 a12 a13 a14 k, LeO (chamberlainlaw09_RunsDoes.f k a0 a1 a2 a3 a4 a5 a6 a7 a8 a9 a10 a11 a12 a13 a14) (chamberlainlaw09_RunsDoes.f (k + 1) a0 a1 a2 a3 a4 a5 a6 a7 a8 a9 a10 a11 a12 a13 a14) := by
  intro a0 a1 a2 a3 a4 a5 a6 a7 a8 a9 a10 a11 a12 a13 a14 k
  obtain ⟨ih0, ih1⟩ := chamberlainlaw09_RunsDoes.mono_l k
  unfold chamberlainlaw09_RunsDoes.f
  repeat' first
      | (with_reducible exact ih0 _ _ _ _ _ _ _ _ _ _ _ _ _ _ _ _)
      | (with_reducible exact ih1 _ _ _ _ _ _ _ _ _ _ _ _ _ _ _ _)
      | (with_reducible exact chamberlainlaw09_awake.mono _)
      | (with_reducible exact chamberlainref09_Next.mono _ _ _ _ _ _)
      | (with_reducible exact chamberlainref09_Right.mono _ _ _)
      | (with_reducible exact chamberlainref09_Same.mono _ _ _)
      | (with_reducible exact chamberlainref09_Set.mono _ _ _ _ _ _ _ _ _ _ _ _)
      | (with_reducible exact runs_Add.mono _ _ _ _ _ _ _ _ _ _ _ _)
      | (with_reducible exact runs_Next.mono _ _ _ _ _ _)
      | (with_reducible exact runs_Right.mono _ _ _)
      | (with_reducible exact LeO.refl _)
      | (with_reducible exact LeO.none _)
      | (with_reducible refine LeO.ite ?_ ?_)
      | (with_reducible refine LeO.bind ?_ (fun _ => ?_))
      | exact ih0 _ _ _ _ _ _ _ _ _ _ _ _ _ _ _ _
      | exact ih1 _ _ _ _ _ _ _ _ _ _ _ _ _ _ _ _
      | exact chamberlainlaw09_awake.mono _
      | exact chamberlainref09_Next.mono _ _ _ _ _ _
      | exact chamberlainref09_Right.mono _ _ _
      | exact chamberlainref09_Same.mono _ _ _
      | exact chamberlainref09_Set.mono _ _ _ _ _ _ _ _ _ _ _ _
      | exact runs_Add.mono _ _ _ _ _ _ _ _ _ _ _ _
      | exact runs_Next.mono _ _ _ _ _ _
      | exact runs_Right.mono _ _ _
      | exact LeO.none _
      | refine LeO.ite ?_ ?_
      | refine LeO.bind ?_ (fun _ => ?_)
def chamberlainlaw09_RunsDoes.T3 : Bool × List (List Nat × List Nat) := (true, [([], []), ([], []), ([0, 1], [0, 1]), ([], []), ([], []), ([3, 4, 2], [3, 4]), ([2, 5], [2, 5]), ([6, 5], [6]), ([7], [7]), ([8, 7, 7], [7, 8]), ([7], [7]), ([10, 9, 7], [7, 10]), ([9, 11, 7], [7, 9, 11]), ([7, 12], [7, 12]), ([13, 11], [13]), ([14], [14]), ([14], [14]), ([15, 16, 14, 14], [14, 15, 16]), ([17, 14], [14, 17]), ([14, 18], [14, 18])])
def chamberlainlaw09_RunsDoes.B3 : List Nat := [0, 0, 3, 0, 0, 31, 63, 127, 255, 511, 255, 2047, 4095, 8191, 16383, 32767, 32767, 131071, 262143, 524287]
theorem chamberlainlaw09_RunsDoes.tab3 : rtab .any (opsOf Try.f3 3) = chamberlainlaw09_RunsDoes.T3 := by kernel_rfl
theorem chamberlainlaw09_RunsDoes.bits3 : waitsOk chamberlainlaw09_RunsDoes.T3.2 chamberlainlaw09_RunsDoes.B3 = true := by kernel_rfl
def chamberlainlaw09_RunsDoes.T4 : Bool × List (List Nat × List Nat) := (true, [([], []), ([], []), ([0, 1], [0, 1]), ([], []), ([], []), ([3, 4, 2], [3, 4]), ([2, 5], [2, 5]), ([6, 5], [6]), ([7], [7]), ([8, 7, 7], [7, 8]), ([7], [7]), ([10, 9, 7], [7, 10]), ([9, 11, 7], [7, 9, 11]), ([7, 12], [7, 12]), ([13, 11, 0, 1, 2, 3, 4, 5, 6, 7, 8, 9, 10, 11, 12, 13], [13])])
def chamberlainlaw09_RunsDoes.B4 : List Nat := [0, 0, 3, 0, 0, 31, 63, 127, 255, 511, 255, 2047, 4095, 8191, 16383]
theorem chamberlainlaw09_RunsDoes.tab4 : rtab .any (opsOf Try.f3 4) = chamberlainlaw09_RunsDoes.T4 := by kernel_rfl
theorem chamberlainlaw09_RunsDoes.bits4 : waitsOk chamberlainlaw09_RunsDoes.T4.2 chamberlainlaw09_RunsDoes.B4 = true := by kernel_rfl
set_option maxHeartbeats 8000000 in
set_option maxRecDepth 100000 in
theorem chamberlainlaw09_RunsDoes.calls (k : Nat) (A0 : Option Addr) (c0 : Nat) (l0 : List (S25)) (a1 : Int) (a2_0 : Int) (a2_1 : Int) (a2_2 : Int) (a2_3 : Int) (a2_4 : Int) (a2_5 : Int) (a2_6 : Int) (a2_7 : Int) (a2_8 : Int) (a3 : Int) (a4 : Int) (a5 : Int) (a6 : Int) (r : Bool) (w : World) (hr0 : Kd.C k25 w A0 l0.length l0) (hc0 : l0.length ≤ c0) (h : chamberlainlaw09_RunsDoes.f k l0 a1 a2_0 a2_1 a2_2 a2_3 a2_4 a2_5 a2_6 a2_7 a2_8 a3 a4 a5 a6 = some r) (hT0 : r = true) :
    Calls Try.prog 3 #[.slice A0 l0.length c0, .int .i64 a1, .agg #[.int .i64 a2_0, .int .i64 a2_1, .int .u32 a2_2, .int .u32 a2_3, .int .u32 a2_4, .int .u32 a2_5, .int .u32 a2_6, .int .u32 a2_7, .int .i64 a2_8], .int .i64 a3, .int .i64 a4, .int .i64 a5, .int .i64 a6] w fun e w' => e = .returned (.bool r) ∧ Below w.heap.size w w' := by
  have hT := Aside0.mk hT0
  clear hT0
  have hu25 := Try.underlying25
  have HR0 := Aside0.mk hr0
  have HC0 := Aside0.mk hc0
  clear hr0 hc0
  have HB := Aside0.mk (Below.refl w.heap.size w)
  have H : ((chamberlainlaw09_awake.f k).bind fun t213 => (if t213 = true then (chamberlainlaw09_RunsDoes.j0 k l0 a1 a3 a4 a5 a6 (decide ((l0.length : Int) > 100)) a2_0 a2_1 a2_2 a2_3 a2_4 a2_5 a2_6 a2_7 a2_8) else (chamberlainlaw09_RunsDoes.j0 k l0 a1 a3 a4 a5 a6 true a2_0 a2_1 a2_2 a2_3 a2_4 a2_5 a2_6 a2_7 a2_8))) = some r := h
  clear h
  have HC8 := Aside0.mk H
  clear H
  go_enter Try.func3, Try.ntmps3
  go_upto_region 1 with (first | ((with_reducible refine gate_dst (N := 9) rfl ?_); (try (refine gate_guard (by rfl) ?_; dsimp only)); refine box_event ?hg (N := 9) ?hd (cs := #[.int .i64 a2_0, .int .i64 a2_1, .int .u32 a2_2, .int .u32 a2_3, .int .u32 a2_4, .int .u32 a2_5, .int .u32 a2_6, .int .u32 a2_7, .int .i64 a2_8]) (t := 25) ?hr ?_; (case hd => rfl); (case hg => rfl); (case hr => first | (go_simp; done) | (go_simp; rfl)); intro gb212 hg w9 hbox hb; have n0_ := Aside0.mk (below_step (by repeat (first | (with_reducible first | exact HB.out | apply below_alloc | apply pw_below_drewN | apply below_drew1) | exact HB.out)) hb); have n1_ := Aside0.mk (hbox); have n2_ := Aside0.mk ((by rw [hg]; exact (below_size (by repeat (first | (with_reducible first | exact HB.out | apply below_alloc | apply pw_below_drewN | apply below_drew1) | exact HB.out))) : w.heap.size ≤ gb212)); have n3_ := Aside0.mk ((by rw [hg]; exact (below_size (by repeat (first | (with_reducible first | exact HB.out | apply below_alloc | apply pw_below_drewN | apply below_drew1) | exact HB.out))) : w.heap.size ≤ gb212)); clear HB; have HB := n0_; have BK212 := n1_; have GW212 := n2_; have GE212 := n3_; clear n0_ n1_ n2_ n3_; clear hb hbox hg))
  (try simp only [Act.put, List.setIfInBounds_toArray, List.set_cons_zero, List.set_cons_succ])
  go_cut [33] (fun v33 wc => ∃ (kq : Nat) (x33_7 : Bool), v33 = .bool x33_7 ∧ Aside0 (chamberlainlaw09_RunsDoes.j0 kq l0 a1 a3 a4 a5 a6 x33_7 a2_0 a2_1 a2_2 a2_3 a2_4 a2_5 a2_6 a2_7 a2_8 = some r) ∧ Aside0 (kq ≤ k) ∧ Aside0 (wc.heap[gb212]? = some (.cells #[.int .i64 a2_0, .int .i64 a2_1, .int .u32 a2_2, .int .u32 a2_3, .int .u32 a2_4, .int .u32 a2_5, .int .u32 a2_6, .int .u32 a2_7, .int .i64 a2_8] 25 (0, 0))) ∧ Aside0 (Below w.heap.size w wc))
  case first =>
    have H := HC8.out
    clear HC8
    replace H := Option.bind_eq_some_iff.mp H
    obtain ⟨t213, A100, H⟩ := H
    replace H : (if t213 = true then (chamberlainlaw09_RunsDoes.j0 k l0 a1 a3 a4 a5 a6 (decide ((l0.length : Int) > 100)) a2_0 a2_1 a2_2 a2_3 a2_4 a2_5 a2_6 a2_7 a2_8) else (chamberlainlaw09_RunsDoes.j0 k l0 a1 a3 a4 a5 a6 true a2_0 a2_1 a2_2 a2_3 a2_4 a2_5 a2_6 a2_7 a2_8)) = some r := H
    have A10 := Aside0.mk A100
    clear A100
    by_cases c11 : t213 = true
    · subst c11
      have H1 : (chamberlainlaw09_RunsDoes.j0 k l0 a1 a3 a4 a5 a6 (decide ((l0.length : Int) > 100)) a2_0 a2_1 a2_2 a2_3 a2_4 a2_5 a2_6 a2_7 a2_8) = some r := by rw [if_pos rfl] at H; exact H
      clear H
      have H := H1
      clear H1
      have H' := Aside0.mk H
      clear H
      go_wp2_with (first | ((with_reducible refine gate_callee (f := 7) rfl ?_); refine goesL_ (some 27) rfl rfl Try.func7 (by kernel_rfl) rfl #[] rfl (by (try simp only [List.map_toArray, List.map_cons, List.map_nil]); first | done | rfl | (simp only [List.length_drop, List.length_take]; rfl)) ?_; (with_reducible refine (chamberlainlaw09_awake.calls k  true _ A10.out).mono ?_); rintro e w12 ⟨rfl, hb⟩; refine ⟨_, rfl, ?_⟩; have n0_ := Aside0.mk (blk_below (g := gb212) (o := .cells #[.int .i64 a2_0, .int .i64 a2_1, .int .u32 a2_2, .int .u32 a2_3, .int .u32 a2_4, .int .u32 a2_5, .int .u32 a2_6, .int .u32 a2_7, .int .i64 a2_8] 25 (0, 0)) (by (with_reducible repeat (first | refine blk_drewN ?_ _ | refine blk_drew ?_ | refine blk_alloc ?_ _)); exact BK212.out) hb); have n1_ := Aside0.mk (below_step (by repeat (first | (with_reducible first | exact HB.out | apply below_alloc | apply pw_below_drewN | apply below_drew1 | refine below_set ?_ GE212.out) | exact HB.out)) hb); clear BK212; clear HB; have BK212 := n0_; have HB := n1_; clear n0_ n1_; (try clear hb); (try clear hb2); (try clear hk); (try clear hi)))
      go_meet
      case rel => exact ⟨_, (decide ((l0.length : Int) > 100)), (by first | rfl | (simp; done) | (simp [*]; done)), H', ⟨by first | omega | exact Nat.le_refl _⟩, ⟨by (with_reducible repeat (first | refine blk_drewN ?_ _ | refine blk_drew ?_ | refine blk_alloc ?_ _)); exact BK212.out⟩, ⟨by repeat (first | (with_reducible first | exact HB.out | apply below_alloc | apply pw_below_drewN | apply below_drew1 | refine below_set ?_ GE212.out) | exact HB.out)⟩⟩
    · replace c11 := Bool.eq_false_iff.mpr c11
      subst c11
      have H1 : (chamberlainlaw09_RunsDoes.j0 k l0 a1 a3 a4 a5 a6 true a2_0 a2_1 a2_2 a2_3 a2_4 a2_5 a2_6 a2_7 a2_8) = some r := by rw [if_neg (show ¬ (false = true) by decide)] at H; exact H
      clear H
      have H := H1
      clear H1
      have H' := Aside0.mk H
      clear H
      go_wp2_with (first | ((with_reducible refine gate_callee (f := 7) rfl ?_); refine goesL_ (some 27) rfl rfl Try.func7 (by kernel_rfl) rfl #[] rfl (by (try simp only [List.map_toArray, List.map_cons, List.map_nil]); first | done | rfl | (simp only [List.length_drop, List.length_take]; rfl)) ?_; (with_reducible refine (chamberlainlaw09_awake.calls k  false _ A10.out).mono ?_); rintro e w13 ⟨rfl, hb⟩; refine ⟨_, rfl, ?_⟩; have n0_ := Aside0.mk (blk_below (g := gb212) (o := .cells #[.int .i64 a2_0, .int .i64 a2_1, .int .u32 a2_2, .int .u32 a2_3, .int .u32 a2_4, .int .u32 a2_5, .int .u32 a2_6, .int .u32 a2_7, .int .i64 a2_8] 25 (0, 0)) (by (with_reducible repeat (first | refine blk_drewN ?_ _ | refine blk_drew ?_ | refine blk_alloc ?_ _)); exact BK212.out) hb); have n1_ := Aside0.mk (below_step (by repeat (first | (with_reducible first | exact HB.out | apply below_alloc | apply pw_below_drewN | apply below_drew1 | refine below_set ?_ GE212.out) | exact HB.out)) hb); clear BK212; clear HB; have BK212 := n0_; have HB := n1_; clear n0_ n1_; (try clear hb); (try clear hb2); (try clear hk); (try clear hi)))
      go_meet
      case rel => exact ⟨_, (true), (by first | rfl | (simp; done) | (simp [*]; done)), H', ⟨by first | omega | exact Nat.le_refl _⟩, ⟨by (with_reducible repeat (first | refine blk_drewN ?_ _ | refine blk_drew ?_ | refine blk_alloc ?_ _)); exact BK212.out⟩, ⟨by repeat (first | (with_reducible first | exact HB.out | apply below_alloc | apply pw_below_drewN | apply below_drew1 | refine below_set ?_ GE212.out) | exact HB.out)⟩⟩
  case rest =>
    clear HC8
    try clear c1
    try clear p2
    try clear c3
    try clear c7
    try clear c11
    obtain ⟨kq, x33_7, rfl, HA, HJ7, BK212, HB⟩ := hcut
    cases kq with
    | zero => exact absurd HA.out (by simp [chamberlainlaw09_RunsDoes.j0])
    | succ kj7 =>
      have H := HA.out
      clear HA
      simp only [chamberlainlaw09_RunsDoes.j0] at H
      by_cases c14 : x33_7 = true
      · subst c14
        have H1 : ((chamberlainlaw09_awake.f kj7).bind fun t214 => (some t214)) = some r := by rw [if_pos rfl] at H; exact H
        clear H
        have H := H1
        clear H1
        replace H := Option.bind_eq_some_iff.mp H
        obtain ⟨t214, A150, H⟩ := H
        replace H : (some t214) = some r := H
        have A15 := Aside0.mk A150
        clear A150
        obtain rfl := Option.some.inj H
        go_wp2_with (first | ((with_reducible refine gate_callee (f := 7) rfl ?_); refine goesL_ (some 34) rfl rfl Try.func7 (by kernel_rfl) rfl #[] rfl (by (try simp only [List.map_toArray, List.map_cons, List.map_nil]); first | done | rfl | (simp only [List.length_drop, List.length_take]; rfl)) ?_; (with_reducible refine (chamberlainlaw09_awake.calls kj7  t214 _ A15.out).mono ?_); rintro e w16 ⟨rfl, hb⟩; refine ⟨_, rfl, ?_⟩; have n0_ := Aside0.mk (blk_below (g := gb212) (o := .cells #[.int .i64 a2_0, .int .i64 a2_1, .int .u32 a2_2, .int .u32 a2_3, .int .u32 a2_4, .int .u32 a2_5, .int .u32 a2_6, .int .u32 a2_7, .int .i64 a2_8] 25 (0, 0)) (by (with_reducible repeat (first | refine blk_drewN ?_ _ | refine blk_drew ?_ | refine blk_alloc ?_ _)); exact BK212.out) hb); have n1_ := Aside0.mk (below_step (by repeat (first | (with_reducible first | exact HB.out | apply below_alloc | apply pw_below_drewN | apply below_drew1 | refine below_set ?_ GE212.out) | exact HB.out)) hb); clear BK212; clear HB; have BK212 := n0_; have HB := n1_; clear n0_ n1_; (try clear hb); (try clear hb2); (try clear hk); (try clear hi)))
        go_ret
        exact ⟨by first | rfl | (simp [errW_none, errW_some] <;> rfl) | (simp [*, errW_none, errW_some] <;> rfl), by repeat (first | (with_reducible first | exact HB.out | apply below_alloc | apply pw_below_drewN | apply below_drew1 | refine below_set ?_ GE212.out) | exact HB.out)⟩
      · replace c14 := Bool.eq_false_iff.mpr c14
        subst c14
        have H1 : ((runs_Right.f kj7 l0 a1).bind fun t215 => ((chamberlainref09_Right.f kj7 l0 a1).bind fun t216 => (if (t215 != t216) = true then (chamberlainlaw09_RunsDoes.j1 kj7 l0 a1 a3 a4 a5 a6 true a2_0 a2_1 a2_2 a2_3 a2_4 a2_5 a2_6 a2_7 a2_8) else ((runs_May.f a2_0 a2_1 a2_2 a2_3 a2_4 a2_5 a2_6 a2_7 a2_8).bind fun t217 => ((chamberlainref09_May.f a2_0 a2_1 a2_2 a2_3 a2_4 a2_5 a2_6 a2_7 a2_8).bind fun t218 => (if (t217 != t218) = true then (chamberlainlaw09_RunsDoes.j1 kj7 l0 a1 a3 a4 a5 a6 true a2_0 a2_1 a2_2 a2_3 a2_4 a2_5 a2_6 a2_7 a2_8) else ((chamberlainref09_Right.f kj7 l0 a1).bind fun t219 => (chamberlainlaw09_RunsDoes.j1 kj7 l0 a1 a3 a4 a5 a6 (!t219) a2_0 a2_1 a2_2 a2_3 a2_4 a2_5 a2_6 a2_7 a2_8)))))))) = some r := by rw [if_neg (show ¬ (false = true) by decide)] at H; exact H
        clear H
        have H := H1
        clear H1
        have HC17 := Aside0.mk H
        clear H
        go_upto_region 3 with (fail)
        go_cut [54] (fun v54 wc => ∃ (kq : Nat) (x54_16 : Bool), v54 = .bool x54_16 ∧ Aside0 (chamberlainlaw09_RunsDoes.j1 kq l0 a1 a3 a4 a5 a6 x54_16 a2_0 a2_1 a2_2 a2_3 a2_4 a2_5 a2_6 a2_7 a2_8 = some r) ∧ Aside0 (kq ≤ kj7) ∧ Aside0 (wc.heap[gb212]? = some (.cells #[.int .i64 a2_0, .int .i64 a2_1, .int .u32 a2_2, .int .u32 a2_3, .int .u32 a2_4, .int .u32 a2_5, .int .u32 a2_6, .int .u32 a2_7, .int .i64 a2_8] 25 (0, 0))) ∧ Aside0 (Below w.heap.size w wc))
        case first =>
          have H := HC17.out
          clear HC17
          replace H := Option.bind_eq_some_iff.mp H
          obtain ⟨t215, A180, H⟩ := H
          replace H : ((chamberlainref09_Right.f kj7 l0 a1).bind fun t216 => (if (t215 != t216) = true then (chamberlainlaw09_RunsDoes.j1 kj7 l0 a1 a3 a4 a5 a6 true a2_0 a2_1 a2_2 a2_3 a2_4 a2_5 a2_6 a2_7 a2_8) else ((runs_May.f a2_0 a2_1 a2_2 a2_3 a2_4 a2_5 a2_6 a2_7 a2_8).bind fun t217 => ((chamberlainref09_May.f a2_0 a2_1 a2_2 a2_3 a2_4 a2_5 a2_6 a2_7 a2_8).bind fun t218 => (if (t217 != t218) = true then (chamberlainlaw09_RunsDoes.j1 kj7 l0 a1 a3 a4 a5 a6 true a2_0 a2_1 a2_2 a2_3 a2_4 a2_5 a2_6 a2_7 a2_8) else ((chamberlainref09_Right.f kj7 l0 a1).bind fun t219 => (chamberlainlaw09_RunsDoes.j1 kj7 l0 a1 a3 a4 a5 a6 (!t219) a2_0 a2_1 a2_2 a2_3 a2_4 a2_5 a2_6 a2_7 a2_8))))))) = some r := H
          have A18 := Aside0.mk A180
          clear A180
          replace H := Option.bind_eq_some_iff.mp H
          obtain ⟨t216, A190, H⟩ := H
          replace H : (if (t215 != t216) = true then (chamberlainlaw09_RunsDoes.j1 kj7 l0 a1 a3 a4 a5 a6 true a2_0 a2_1 a2_2 a2_3 a2_4 a2_5 a2_6 a2_7 a2_8) else ((runs_May.f a2_0 a2_1 a2_2 a2_3 a2_4 a2_5 a2_6 a2_7 a2_8).bind fun t217 => ((chamberlainref09_May.f a2_0 a2_1 a2_2 a2_3 a2_4 a2_5 a2_6 a2_7 a2_8).bind fun t218 => (if (t217 != t218) = true then (chamberlainlaw09_RunsDoes.j1 kj7 l0 a1 a3 a4 a5 a6 true a2_0 a2_1 a2_2 a2_3 a2_4 a2_5 a2_6 a2_7 a2_8) else ((chamberlainref09_Right.f kj7 l0 a1).bind fun t219 => (chamberlainlaw09_RunsDoes.j1 kj7 l0 a1 a3 a4 a5 a6 (!t219) a2_0 a2_1 a2_2 a2_3 a2_4 a2_5 a2_6 a2_7 a2_8)))))) = some r := H
          have A19 := Aside0.mk A190
          clear A190
          by_cases c20 : (t215 != t216) = true
          · rw [if_pos c20] at H
            have c20b0 : (t215 != t216) = true := c20
            (try (have c20b1 : decide (t215 = t216) = false := by simpa using c20))
            (try (have c20b2 : (t215 == t216) = false := by simpa using c20))
            (try (have c20b3 : ¬ (t215 = t216) := by simpa using c20))
            clear c20
            (first | rw [c20b0] | (simp only [i64_w, i32_w]; rw [c20b0]) | skip)
            have H' := Aside0.mk H
            clear H
            try go_wp2
            have n0_ := Aside0.mk (blk_drew BK212.out)
            have n1_ := Aside0.mk (below_drew1 HB.out)
            clear BK212
            clear HB
            have BK212 := n0_
            have HB := n1_
            clear n0_ n1_
            refine start_ (n := 20) (S := fun w' => True) (ds := []) #[false, false, false, false, false, false, false, false, false, false, false, false, false, false, false, false, false, false, false, false] (by kernel_rfl) rfl rfl trivial (fun hHeld => ?_); refine with_tabW chamberlainlaw09_RunsDoes.tab3 chamberlainlaw09_RunsDoes.bits3 (fun HT_ HW_ => ?_)
            generalize wc.drew = w21 at BK212 HB hHeld ⊢
            refine pure_ (i := 0) (N := some 35) (v := ?_) (a' := ?_) #[true, false, false, false, false, false, false, false, false, false, false, false, false, false, false, false, false, false, false, false] rfl rfl (any_of HT_.out (by kernel_rfl)) (fun _ _ _ h => h) (Or.inl ⟨by rfl, ?_⟩) ?_ ?_
            rotate_left
            · intro w'
              go_simp
              with_reducible rfl
            rotate_left
            · simp only [Act.put, List.setIfInBounds_toArray, List.set_cons_zero, List.set_cons_succ, i64_w, i32_w]
              rfl
            refine pure_ (i := 1) (N := some 36) (v := ?_) (a' := ?_) #[true, true, false, false, false, false, false, false, false, false, false, false, false, false, false, false, false, false, false, false] rfl rfl (any_of HT_.out (by kernel_rfl)) (fun _ _ _ h => h) (Or.inl ⟨by rfl, ?_⟩) ?_ ?_
            rotate_left
            · intro w'
              go_simp
              with_reducible rfl
            rotate_left
            · simp only [Act.put, List.setIfInBounds_toArray, List.set_cons_zero, List.set_cons_succ, i64_w, i32_w]
              rfl
            refine pure_ (i := 3) (N := some 38) (v := ?_) (a' := ?_) #[true, true, false, true, false, false, false, false, false, false, false, false, false, false, false, false, false, false, false, false] rfl rfl (any_of HT_.out (by kernel_rfl)) (fun _ _ _ h => h) (Or.inl ⟨by rfl, ?_⟩) ?_ ?_
            rotate_left
            · intro w'
              go_simp
              with_reducible rfl
            rotate_left
            · simp only [Act.put, List.setIfInBounds_toArray, List.set_cons_zero, List.set_cons_succ, i64_w, i32_w]
              rfl
            refine pure_ (i := 4) (N := some 39) (v := ?_) (a' := ?_) #[true, true, false, true, true, false, false, false, false, false, false, false, false, false, false, false, false, false, false, false] rfl rfl (any_of HT_.out (by kernel_rfl)) (fun _ _ _ h => h) (Or.inl ⟨by rfl, ?_⟩) ?_ ?_
            rotate_left
            · intro w'
              go_simp
              with_reducible rfl
            rotate_left
            · simp only [Act.put, List.setIfInBounds_toArray, List.set_cons_zero, List.set_cons_succ, i64_w, i32_w]
              rfl
            refine one_ (i := 2) (N := some 37) #[true, true, true, true, true, false, false, false, false, false, false, false, false, false, false, false, false, false, false, false] rfl rfl (one_of HT_.out (by kernel_rfl)) (by decide) (fun K hK => ?_)
            refine goes_ Try.func8 (by kernel_rfl) rfl #[.slice A0 l0.length c0, .int .i64 a1] (by rfl) rfl rfl (by (try simp only [List.map_toArray, List.map_cons, List.map_nil]); first | done | rfl | (simp only [List.length_drop, List.length_take]; rfl)) ?_
            with_reducible refine (runs_Right.calls kj7 _ _ l0 a1 t215 _ ?side1 ?side2 A18.out).mono ?_
            (case side1 => repeat (first | exact (Kd.C_below HR0.out HB.out) | (with_reducible refine Kd.C_alloc ?_ _) | (with_reducible refine Kd.C_drewN ?_ _) | (with_reducible refine Kd.C_drew ?_)))
            (case side2 => exact HC0.out)
            rintro e w22 ⟨rfl, hb⟩
            refine ⟨_, rfl, ?_⟩
            have n0_ := Aside0.mk (blk_below (g := gb212) (o := .cells #[.int .i64 a2_0, .int .i64 a2_1, .int .u32 a2_2, .int .u32 a2_3, .int .u32 a2_4, .int .u32 a2_5, .int .u32 a2_6, .int .u32 a2_7, .int .i64 a2_8] 25 (0, 0)) (by (with_reducible repeat (first | refine blk_drewN ?_ _ | refine blk_drew ?_ | refine blk_alloc ?_ _)); exact BK212.out) hb)
            have n1_ := Aside0.mk (below_step (by repeat (first | (with_reducible first | exact HB.out | apply below_alloc | apply pw_below_drewN | apply below_drew1 | refine below_set ?_ GE212.out) | exact HB.out)) hb)
            clear BK212
            clear HB
            have BK212 := n0_
            have HB := n1_
            clear n0_ n1_
            (try clear hb)
            (try clear hb2)
            (try clear hk)
            (try clear hi)
            refine hK.out _ _ trivial (fun hHeld => ?_)
            clear hK K
            refine norm_ (a' := ?_) ?_ ?_
            rotate_left
            · show Act.put _ (some 37) _ = _
              simp only [Act.put, List.setIfInBounds_toArray, List.set_cons_zero, List.set_cons_succ, i64_w, i32_w]
              rfl
            refine one_ (i := 5) (N := some 40) #[true, true, true, true, true, true, false, false, false, false, false, false, false, false, false, false, false, false, false, false] rfl rfl (one_of HT_.out (by kernel_rfl)) (by decide) (fun K hK => ?_)
            refine goes_ Try.func9 (by kernel_rfl) rfl #[.slice A0 l0.length c0, .int .i64 a1] (by rfl) rfl rfl (by (try simp only [List.map_toArray, List.map_cons, List.map_nil]); first | done | rfl | (simp only [List.length_drop, List.length_take]; rfl)) ?_
            with_reducible refine (chamberlainref09_Right.calls kj7 _ _ l0 a1 t216 _ ?side1 ?side2 A19.out).mono ?_
            (case side1 => repeat (first | exact (Kd.C_below HR0.out HB.out) | (with_reducible refine Kd.C_alloc ?_ _) | (with_reducible refine Kd.C_drewN ?_ _) | (with_reducible refine Kd.C_drew ?_)))
            (case side2 => exact HC0.out)
            rintro e w23 ⟨rfl, hb⟩
            refine ⟨_, rfl, ?_⟩
            have n0_ := Aside0.mk (blk_below (g := gb212) (o := .cells #[.int .i64 a2_0, .int .i64 a2_1, .int .u32 a2_2, .int .u32 a2_3, .int .u32 a2_4, .int .u32 a2_5, .int .u32 a2_6, .int .u32 a2_7, .int .i64 a2_8] 25 (0, 0)) (by (with_reducible repeat (first | refine blk_drewN ?_ _ | refine blk_drew ?_ | refine blk_alloc ?_ _)); exact BK212.out) hb)
            have n1_ := Aside0.mk (below_step (by repeat (first | (with_reducible first | exact HB.out | apply below_alloc | apply pw_below_drewN | apply below_drew1 | refine below_set ?_ GE212.out) | exact HB.out)) hb)
            clear BK212
            clear HB
            have BK212 := n0_
            have HB := n1_
            clear n0_ n1_
            (try clear hb)
            (try clear hb2)
            (try clear hk)
            (try clear hi)
            refine hK.out _ _ trivial (fun hHeld => ?_)
            clear hK K
            refine norm_ (a' := ?_) ?_ ?_
            rotate_left
            · show Act.put _ (some 40) _ = _
              simp only [Act.put, List.setIfInBounds_toArray, List.set_cons_zero, List.set_cons_succ, i64_w, i32_w]
              rfl
            refine pure_ (i := 6) (N := some 41) (v := ?_) (a' := ?_) #[true, true, true, true, true, true, true, false, false, false, false, false, false, false, false, false, false, false, false, false] rfl rfl (any_of HT_.out (by kernel_rfl)) (fun _ _ _ h => h) (Or.inl ⟨by rfl, ?_⟩) ?_ ?_
            rotate_left
            · intro w'
              go_simp
              with_reducible rfl
            rotate_left
            · simp only [Act.put, List.setIfInBounds_toArray, List.set_cons_zero, List.set_cons_succ, i64_w, i32_w]
              rfl
            refine pure_ (i := 7) (N := some 42) (v := ?_) (a' := ?_) #[true, true, true, true, true, true, true, true, false, false, false, false, false, false, false, false, false, false, false, false] rfl rfl (any_of HT_.out (by kernel_rfl)) (fun _ _ _ h => h) (Or.inl ⟨by rfl, ?_⟩) ?_ ?_
            rotate_left
            · intro w'
              go_simp
              with_reducible rfl
            rotate_left
            · simp only [Act.put, List.setIfInBounds_toArray, List.set_cons_zero, List.set_cons_succ, i64_w, i32_w]
              rfl
            refine pure_ (i := 8) (N := some 43) (v := undef) (a' := ?_) #[true, true, true, true, true, true, true, true, true, false, false, false, false, false, false, false, false, false, false, false] rfl rfl (any_of HT_.out (by kernel_rfl)) (fun _ _ _ h => h) (Or.inr ⟨by rfl, rfl⟩) ?_ ?_
            rotate_left
            · simp only [Act.put, List.setIfInBounds_toArray, List.set_cons_zero, List.set_cons_succ, i64_w, i32_w]
              rfl
            refine pure_ (i := 9) (N := some 44) (v := undef) (a' := ?_) #[true, true, true, true, true, true, true, true, true, true, false, false, false, false, false, false, false, false, false, false] rfl rfl (any_of HT_.out (by kernel_rfl)) (fun _ _ _ h => h) (Or.inr ⟨by rfl, rfl⟩) ?_ ?_
            rotate_left
            · simp only [Act.put, List.setIfInBounds_toArray, List.set_cons_zero, List.set_cons_succ, i64_w, i32_w]
              rfl
            refine pure_ (i := 10) (N := some 45) (v := undef) (a' := ?_) #[true, true, true, true, true, true, true, true, true, true, true, false, false, false, false, false, false, false, false, false] rfl rfl (any_of HT_.out (by kernel_rfl)) (fun _ _ _ h => h) (Or.inr ⟨by rfl, rfl⟩) ?_ ?_
            rotate_left
            · simp only [Act.put, List.setIfInBounds_toArray, List.set_cons_zero, List.set_cons_succ, i64_w, i32_w]
              rfl
            refine pure_ (i := 11) (N := some 46) (v := undef) (a' := ?_) #[true, true, true, true, true, true, true, true, true, true, true, true, false, false, false, false, false, false, false, false] rfl rfl (any_of HT_.out (by kernel_rfl)) (fun _ _ _ h => h) (Or.inr ⟨by rfl, rfl⟩) ?_ ?_
            rotate_left
            · simp only [Act.put, List.setIfInBounds_toArray, List.set_cons_zero, List.set_cons_succ, i64_w, i32_w]
              rfl
            refine pure_ (i := 12) (N := some 47) (v := undef) (a' := ?_) #[true, true, true, true, true, true, true, true, true, true, true, true, true, false, false, false, false, false, false, false] rfl rfl (any_of HT_.out (by kernel_rfl)) (fun _ _ _ h => h) (Or.inr ⟨by rfl, rfl⟩) ?_ ?_
            rotate_left
            · simp only [Act.put, List.setIfInBounds_toArray, List.set_cons_zero, List.set_cons_succ, i64_w, i32_w]
              rfl
            refine pure_ (i := 13) (N := some 48) (v := ?_) (a' := ?_) #[true, true, true, true, true, true, true, true, true, true, true, true, true, true, false, false, false, false, false, false] rfl rfl (any_of HT_.out (by kernel_rfl)) (fun _ _ _ h => h) (Or.inl ⟨by rfl, ?_⟩) ?_ ?_
            rotate_left
            · intro w'
              go_simp
              with_reducible rfl
            rotate_left
            · simp only [Act.put, List.setIfInBounds_toArray, List.set_cons_zero, List.set_cons_succ, i64_w, i32_w]
              rfl
            refine pure_ (i := 14) (N := some 49) (v := ?_) (a' := ?_) #[true, true, true, true, true, true, true, true, true, true, true, true, true, true, true, false, false, false, false, false] rfl rfl (any_of HT_.out (by kernel_rfl)) (fun _ _ _ h => h) (Or.inl ⟨by rfl, ?_⟩) ?_ ?_
            rotate_left
            · intro w'
              go_simp
              with_reducible rfl
            rotate_left
            · simp only [Act.put, List.setIfInBounds_toArray, List.set_cons_zero, List.set_cons_succ, i64_w, i32_w]
              rfl
            refine pure_ (i := 15) (N := some 50) (v := undef) (a' := ?_) #[true, true, true, true, true, true, true, true, true, true, true, true, true, true, true, true, false, false, false, false] rfl rfl (any_of HT_.out (by kernel_rfl)) (fun _ _ _ h => h) (Or.inr ⟨by rfl, rfl⟩) ?_ ?_
            rotate_left
            · simp only [Act.put, List.setIfInBounds_toArray, List.set_cons_zero, List.set_cons_succ, i64_w, i32_w]
              rfl
            refine pure_ (i := 16) (N := some 51) (v := undef) (a' := ?_) #[true, true, true, true, true, true, true, true, true, true, true, true, true, true, true, true, true, false, false, false] rfl rfl (any_of HT_.out (by kernel_rfl)) (fun _ _ _ h => h) (Or.inr ⟨by rfl, rfl⟩) ?_ ?_
            rotate_left
            · simp only [Act.put, List.setIfInBounds_toArray, List.set_cons_zero, List.set_cons_succ, i64_w, i32_w]
              rfl
            refine pure_ (i := 17) (N := some 52) (v := undef) (a' := ?_) #[true, true, true, true, true, true, true, true, true, true, true, true, true, true, true, true, true, true, false, false] rfl rfl (any_of HT_.out (by kernel_rfl)) (fun _ _ _ h => h) (Or.inr ⟨by rfl, rfl⟩) ?_ ?_
            rotate_left
            · simp only [Act.put, List.setIfInBounds_toArray, List.set_cons_zero, List.set_cons_succ, i64_w, i32_w]
              rfl
            refine pure_ (i := 18) (N := some 53) (v := undef) (a' := ?_) #[true, true, true, true, true, true, true, true, true, true, true, true, true, true, true, true, true, true, true, false] rfl rfl (any_of HT_.out (by kernel_rfl)) (fun _ _ _ h => h) (Or.inr ⟨by rfl, rfl⟩) ?_ ?_
            rotate_left
            · simp only [Act.put, List.setIfInBounds_toArray, List.set_cons_zero, List.set_cons_succ, i64_w, i32_w]
              rfl
            refine pure_ (i := 19) (N := some 54) (v := ?_) (a' := ?_) #[true, true, true, true, true, true, true, true, true, true, true, true, true, true, true, true, true, true, true, true] rfl rfl (any_of HT_.out (by kernel_rfl)) (fun _ _ _ h => h) (Or.inl ⟨by rfl, ?_⟩) ?_ ?_
            rotate_left
            · intro w'
              go_simp
              with_reducible rfl
            rotate_left
            · simp only [Act.put, List.setIfInBounds_toArray, List.set_cons_zero, List.set_cons_succ, i64_w, i32_w]
              rfl
            refine done_ (done_of HT_.out (by kernel_rfl)) ?_
            try go_wp2
            go_meet
            case rel => exact ⟨_, (true), (by first | rfl | (simp; done) | (simp [*]; done)), H', ⟨by have := HJ7.out; first | omega | exact Nat.le_refl _⟩, ⟨by (with_reducible repeat (first | refine blk_drewN ?_ _ | refine blk_drew ?_ | refine blk_alloc ?_ _)); exact BK212.out⟩, ⟨by repeat (first | (with_reducible first | exact HB.out | apply below_alloc | apply pw_below_drewN | apply below_drew1 | refine below_set ?_ GE212.out) | exact HB.out)⟩⟩
          · rw [if_neg c20] at H
            have c20b0 : (t215 != t216) = false := by simpa using c20
            (try (have c20b1 : decide (t215 = t216) = true := by simpa using c20))
            (try (have c20b2 : (t215 == t216) = true := by simpa using c20))
            clear c20
            (first | rw [c20b0] | (simp only [i64_w, i32_w]; rw [c20b0]) | skip)
            replace H := Option.bind_eq_some_iff.mp H
            obtain ⟨t217, A240, H⟩ := H
            replace H : ((chamberlainref09_May.f a2_0 a2_1 a2_2 a2_3 a2_4 a2_5 a2_6 a2_7 a2_8).bind fun t218 => (if (t217 != t218) = true then (chamberlainlaw09_RunsDoes.j1 kj7 l0 a1 a3 a4 a5 a6 true a2_0 a2_1 a2_2 a2_3 a2_4 a2_5 a2_6 a2_7 a2_8) else ((chamberlainref09_Right.f kj7 l0 a1).bind fun t219 => (chamberlainlaw09_RunsDoes.j1 kj7 l0 a1 a3 a4 a5 a6 (!t219) a2_0 a2_1 a2_2 a2_3 a2_4 a2_5 a2_6 a2_7 a2_8)))) = some r := H
            have A24 := Aside0.mk A240
            clear A240
            replace H := Option.bind_eq_some_iff.mp H
            obtain ⟨t218, A250, H⟩ := H
            replace H : (if (t217 != t218) = true then (chamberlainlaw09_RunsDoes.j1 kj7 l0 a1 a3 a4 a5 a6 true a2_0 a2_1 a2_2 a2_3 a2_4 a2_5 a2_6 a2_7 a2_8) else ((chamberlainref09_Right.f kj7 l0 a1).bind fun t219 => (chamberlainlaw09_RunsDoes.j1 kj7 l0 a1 a3 a4 a5 a6 (!t219) a2_0 a2_1 a2_2 a2_3 a2_4 a2_5 a2_6 a2_7 a2_8))) = some r := H
            have A25 := Aside0.mk A250
            clear A250
            by_cases c26 : (t217 != t218) = true
            · rw [if_pos c26] at H
              have c26b0 : (t217 != t218) = true := c26
              (try (have c26b1 : decide (t217 = t218) = false := by simpa using c26))
              (try (have c26b2 : (t217 == t218) = false := by simpa using c26))
              (try (have c26b3 : ¬ (t217 = t218) := by simpa using c26))
              clear c26
              have H' := Aside0.mk H
              clear H
              try go_wp2
              have n0_ := Aside0.mk (blk_drew BK212.out)
              have n1_ := Aside0.mk (below_drew1 HB.out)
              clear BK212
              clear HB
              have BK212 := n0_
              have HB := n1_
              clear n0_ n1_
              refine start_ (n := 20) (S := fun w' => w'.cell? ⟨gb212, 0, none⟩ = some (.int .i64 a2_0) ∧ w'.cell? ⟨gb212, 1, none⟩ = some (.int .i64 a2_1) ∧ w'.cell? ⟨gb212, 2, none⟩ = some (.int .u32 a2_2) ∧ w'.cell? ⟨gb212, 3, none⟩ = some (.int .u32 a2_3) ∧ w'.cell? ⟨gb212, 4, none⟩ = some (.int .u32 a2_4) ∧ w'.cell? ⟨gb212, 5, none⟩ = some (.int .u32 a2_5) ∧ w'.cell? ⟨gb212, 6, none⟩ = some (.int .u32 a2_6) ∧ w'.cell? ⟨gb212, 7, none⟩ = some (.int .u32 a2_7) ∧ w'.cell? ⟨gb212, 8, none⟩ = some (.int .i64 a2_8)) (ds := []) #[false, false, false, false, false, false, false, false, false, false, false, false, false, false, false, false, false, false, false, false] (by kernel_rfl) rfl rfl ⟨(blk_cell BK212.out 0).trans rfl, (blk_cell BK212.out 1).trans rfl, (blk_cell BK212.out 2).trans rfl, (blk_cell BK212.out 3).trans rfl, (blk_cell BK212.out 4).trans rfl, (blk_cell BK212.out 5).trans rfl, (blk_cell BK212.out 6).trans rfl, (blk_cell BK212.out 7).trans rfl, (blk_cell BK212.out 8).trans rfl⟩ (fun hHeld => ?_); refine with_tabW chamberlainlaw09_RunsDoes.tab3 chamberlainlaw09_RunsDoes.bits3 (fun HT_ HW_ => ?_)
              generalize wc.drew = w27 at BK212 HB hHeld ⊢
              refine pure_ (i := 0) (N := some 35) (v := ?_) (a' := ?_) #[true, false, false, false, false, false, false, false, false, false, false, false, false, false, false, false, false, false, false, false] rfl rfl (any_of HT_.out (by kernel_rfl)) (fun _ _ _ h => h) (Or.inl ⟨by rfl, ?_⟩) ?_ ?_
              rotate_left
              · intro w'
                go_simp
                with_reducible rfl
              rotate_left
              · simp only [Act.put, List.setIfInBounds_toArray, List.set_cons_zero, List.set_cons_succ, i64_w, i32_w]
                rfl
              refine pure_ (i := 1) (N := some 36) (v := ?_) (a' := ?_) #[true, true, false, false, false, false, false, false, false, false, false, false, false, false, false, false, false, false, false, false] rfl rfl (any_of HT_.out (by kernel_rfl)) (fun _ _ _ h => h) (Or.inl ⟨by rfl, ?_⟩) ?_ ?_
              rotate_left
              · intro w'
                go_simp
                with_reducible rfl
              rotate_left
              · simp only [Act.put, List.setIfInBounds_toArray, List.set_cons_zero, List.set_cons_succ, i64_w, i32_w]
                rfl
              refine pure_ (i := 3) (N := some 38) (v := ?_) (a' := ?_) #[true, true, false, true, false, false, false, false, false, false, false, false, false, false, false, false, false, false, false, false] rfl rfl (any_of HT_.out (by kernel_rfl)) (fun _ _ _ h => h) (Or.inl ⟨by rfl, ?_⟩) ?_ ?_
              rotate_left
              · intro w'
                go_simp
                with_reducible rfl
              rotate_left
              · simp only [Act.put, List.setIfInBounds_toArray, List.set_cons_zero, List.set_cons_succ, i64_w, i32_w]
                rfl
              refine pure_ (i := 4) (N := some 39) (v := ?_) (a' := ?_) #[true, true, false, true, true, false, false, false, false, false, false, false, false, false, false, false, false, false, false, false] rfl rfl (any_of HT_.out (by kernel_rfl)) (fun _ _ _ h => h) (Or.inl ⟨by rfl, ?_⟩) ?_ ?_
              rotate_left
              · intro w'
                go_simp
                with_reducible rfl
              rotate_left
              · simp only [Act.put, List.setIfInBounds_toArray, List.set_cons_zero, List.set_cons_succ, i64_w, i32_w]
                rfl
              refine one_ (i := 2) (N := some 37) #[true, true, true, true, true, false, false, false, false, false, false, false, false, false, false, false, false, false, false, false] rfl rfl (one_of HT_.out (by kernel_rfl)) (by decide) (fun K hK => ?_)
              refine goes_ Try.func8 (by kernel_rfl) rfl #[.slice A0 l0.length c0, .int .i64 a1] (by rfl) rfl rfl (by (try simp only [List.map_toArray, List.map_cons, List.map_nil]); first | done | rfl | (simp only [List.length_drop, List.length_take]; rfl)) ?_
              with_reducible refine (runs_Right.calls kj7 _ _ l0 a1 t215 _ ?side1 ?side2 A18.out).mono ?_
              (case side1 => repeat (first | exact (Kd.C_below HR0.out HB.out) | (with_reducible refine Kd.C_alloc ?_ _) | (with_reducible refine Kd.C_drewN ?_ _) | (with_reducible refine Kd.C_drew ?_)))
              (case side2 => exact HC0.out)
              rintro e w28 ⟨rfl, hb⟩
              refine ⟨_, rfl, ?_⟩
              have n0_ := Aside0.mk (blk_below (g := gb212) (o := .cells #[.int .i64 a2_0, .int .i64 a2_1, .int .u32 a2_2, .int .u32 a2_3, .int .u32 a2_4, .int .u32 a2_5, .int .u32 a2_6, .int .u32 a2_7, .int .i64 a2_8] 25 (0, 0)) (by (with_reducible repeat (first | refine blk_drewN ?_ _ | refine blk_drew ?_ | refine blk_alloc ?_ _)); exact BK212.out) hb)
              have n1_ := Aside0.mk (below_step (by repeat (first | (with_reducible first | exact HB.out | apply below_alloc | apply pw_below_drewN | apply below_drew1 | refine below_set ?_ GE212.out) | exact HB.out)) hb)
              clear BK212
              clear HB
              have BK212 := n0_
              have HB := n1_
              clear n0_ n1_
              (try clear hb)
              (try clear hb2)
              (try clear hk)
              (try clear hi)
              refine hK.out _ _ ⟨(blk_cell BK212.out 0).trans rfl, (blk_cell BK212.out 1).trans rfl, (blk_cell BK212.out 2).trans rfl, (blk_cell BK212.out 3).trans rfl, (blk_cell BK212.out 4).trans rfl, (blk_cell BK212.out 5).trans rfl, (blk_cell BK212.out 6).trans rfl, (blk_cell BK212.out 7).trans rfl, (blk_cell BK212.out 8).trans rfl⟩ (fun hHeld => ?_)
              clear hK K
              refine norm_ (a' := ?_) ?_ ?_
              rotate_left
              · show Act.put _ (some 37) _ = _
                simp only [Act.put, List.setIfInBounds_toArray, List.set_cons_zero, List.set_cons_succ, i64_w, i32_w]
                rfl
              refine one_ (i := 5) (N := some 40) #[true, true, true, true, true, true, false, false, false, false, false, false, false, false, false, false, false, false, false, false] rfl rfl (one_of HT_.out (by kernel_rfl)) (by decide) (fun K hK => ?_)
              refine goes_ Try.func9 (by kernel_rfl) rfl #[.slice A0 l0.length c0, .int .i64 a1] (by rfl) rfl rfl (by (try simp only [List.map_toArray, List.map_cons, List.map_nil]); first | done | rfl | (simp only [List.length_drop, List.length_take]; rfl)) ?_
              with_reducible refine (chamberlainref09_Right.calls kj7 _ _ l0 a1 t216 _ ?side1 ?side2 A19.out).mono ?_
              (case side1 => repeat (first | exact (Kd.C_below HR0.out HB.out) | (with_reducible refine Kd.C_alloc ?_ _) | (with_reducible refine Kd.C_drewN ?_ _) | (with_reducible refine Kd.C_drew ?_)))
              (case side2 => exact HC0.out)
              rintro e w29 ⟨rfl, hb⟩
              refine ⟨_, rfl, ?_⟩
              have n0_ := Aside0.mk (blk_below (g := gb212) (o := .cells #[.int .i64 a2_0, .int .i64 a2_1, .int .u32 a2_2, .int .u32 a2_3, .int .u32 a2_4, .int .u32 a2_5, .int .u32 a2_6, .int .u32 a2_7, .int .i64 a2_8] 25 (0, 0)) (by (with_reducible repeat (first | refine blk_drewN ?_ _ | refine blk_drew ?_ | refine blk_alloc ?_ _)); exact BK212.out) hb)
              have n1_ := Aside0.mk (below_step (by repeat (first | (with_reducible first | exact HB.out | apply below_alloc | apply pw_below_drewN | apply below_drew1 | refine below_set ?_ GE212.out) | exact HB.out)) hb)
              clear BK212
              clear HB
              have BK212 := n0_
              have HB := n1_
              clear n0_ n1_
              (try clear hb)
              (try clear hb2)
              (try clear hk)
              (try clear hi)
              refine hK.out _ _ ⟨(blk_cell BK212.out 0).trans rfl, (blk_cell BK212.out 1).trans rfl, (blk_cell BK212.out 2).trans rfl, (blk_cell BK212.out 3).trans rfl, (blk_cell BK212.out 4).trans rfl, (blk_cell BK212.out 5).trans rfl, (blk_cell BK212.out 6).trans rfl, (blk_cell BK212.out 7).trans rfl, (blk_cell BK212.out 8).trans rfl⟩ (fun hHeld => ?_)
              clear hK K
              refine norm_ (a' := ?_) ?_ ?_
              rotate_left
              · show Act.put _ (some 40) _ = _
                simp only [Act.put, List.setIfInBounds_toArray, List.set_cons_zero, List.set_cons_succ, i64_w, i32_w]
                rfl
              refine pure_ (i := 6) (N := some 41) (v := ?_) (a' := ?_) #[true, true, true, true, true, true, true, false, false, false, false, false, false, false, false, false, false, false, false, false] rfl rfl (any_of HT_.out (by kernel_rfl)) (fun _ _ _ h => h) (Or.inl ⟨by rfl, ?_⟩) ?_ ?_
              rotate_left
              · intro w'
                go_simp
                with_reducible rfl
              rotate_left
              · simp only [Act.put, List.setIfInBounds_toArray, List.set_cons_zero, List.set_cons_succ, i64_w, i32_w]
                rfl
              refine pure_ (i := 7) (N := some 42) (v := ?_) (a' := ?_) #[true, true, true, true, true, true, true, true, false, false, false, false, false, false, false, false, false, false, false, false] rfl rfl (any_of HT_.out (by kernel_rfl)) (fun _ _ _ h => h) (Or.inl ⟨by rfl, ?_⟩) ?_ ?_
              rotate_left
              · intro w'
                go_simp
                with_reducible rfl
              rotate_left
              · simp only [Act.put, List.setIfInBounds_toArray, List.set_cons_zero, List.set_cons_succ, i64_w, i32_w]
                rfl
              refine take_ (i := 8) (N := some 43) (v := ?_) (a' := ?_) #[true, true, true, true, true, true, true, true, true, false, false, false, false, false, false, false, false, false, false, false] rfl rfl (take_ofW HT_.out HW_.out (by kernel_rfl)) (fun _ _ _ h => h) (Or.inl ⟨by rfl, ?_⟩) hHeld ?_ ?_
              rotate_left
              · rintro w' ⟨s0, s1, s2, s3, s4, s5, s6, s7, s8⟩
                go_simp
                with_reducible rfl
              rotate_left
              · simp only [Act.put, List.setIfInBounds_toArray, List.set_cons_zero, List.set_cons_succ, i64_w, i32_w]
                rfl
              refine take_ (i := 10) (N := some 45) (v := ?_) (a' := ?_) #[true, true, true, true, true, true, true, true, true, false, true, false, false, false, false, false, false, false, false, false] rfl rfl (take_ofW HT_.out HW_.out (by kernel_rfl)) (fun _ _ _ h => h) (Or.inl ⟨by rfl, ?_⟩) hHeld ?_ ?_
              rotate_left
              · rintro w' ⟨s0, s1, s2, s3, s4, s5, s6, s7, s8⟩
                go_simp
                with_reducible rfl
              rotate_left
              · simp only [Act.put, List.setIfInBounds_toArray, List.set_cons_zero, List.set_cons_succ, i64_w, i32_w]
                rfl
              refine one_ (i := 9) (N := some 44) #[true, true, true, true, true, true, true, true, true, true, true, false, false, false, false, false, false, false, false, false] rfl rfl (one_of HT_.out (by kernel_rfl)) (by decide) (fun K hK => ?_)
              refine goes_ Try.func10 (by kernel_rfl) rfl #[.agg #[.int .i64 a2_0, .int .i64 a2_1, .int .u32 a2_2, .int .u32 a2_3, .int .u32 a2_4, .int .u32 a2_5, .int .u32 a2_6, .int .u32 a2_7, .int .i64 a2_8]] (by rfl) rfl rfl (by (try simp only [List.map_toArray, List.map_cons, List.map_nil]); first | done | rfl | (simp only [List.length_drop, List.length_take]; rfl)) ?_
              with_reducible refine (runs_May.calls a2_0 a2_1 a2_2 a2_3 a2_4 a2_5 a2_6 a2_7 a2_8 t217 _ A24.out).mono ?_
              rintro e w30 ⟨rfl, hb⟩
              refine ⟨_, rfl, ?_⟩
              have n0_ := Aside0.mk (blk_below (g := gb212) (o := .cells #[.int .i64 a2_0, .int .i64 a2_1, .int .u32 a2_2, .int .u32 a2_3, .int .u32 a2_4, .int .u32 a2_5, .int .u32 a2_6, .int .u32 a2_7, .int .i64 a2_8] 25 (0, 0)) (by (with_reducible repeat (first | refine blk_drewN ?_ _ | refine blk_drew ?_ | refine blk_alloc ?_ _)); exact BK212.out) hb)
              have n1_ := Aside0.mk (below_step (by repeat (first | (with_reducible first | exact HB.out | apply below_alloc | apply pw_below_drewN | apply below_drew1 | refine below_set ?_ GE212.out) | exact HB.out)) hb)
              clear BK212
              clear HB
              have BK212 := n0_
              have HB := n1_
              clear n0_ n1_
              (try clear hb)
              (try clear hb2)
              (try clear hk)
              (try clear hi)
              refine hK.out _ _ ⟨(blk_cell BK212.out 0).trans rfl, (blk_cell BK212.out 1).trans rfl, (blk_cell BK212.out 2).trans rfl, (blk_cell BK212.out 3).trans rfl, (blk_cell BK212.out 4).trans rfl, (blk_cell BK212.out 5).trans rfl, (blk_cell BK212.out 6).trans rfl, (blk_cell BK212.out 7).trans rfl, (blk_cell BK212.out 8).trans rfl⟩ (fun hHeld => ?_)
              clear hK K
              refine norm_ (a' := ?_) ?_ ?_
              rotate_left
              · show Act.put _ (some 44) _ = _
                simp only [Act.put, List.setIfInBounds_toArray, List.set_cons_zero, List.set_cons_succ, i64_w, i32_w]
                rfl
              refine one_ (i := 11) (N := some 46) #[true, true, true, true, true, true, true, true, true, true, true, true, false, false, false, false, false, false, false, false] rfl rfl (one_of HT_.out (by kernel_rfl)) (by decide) (fun K hK => ?_)
              refine goes_ Try.func11 (by kernel_rfl) rfl #[.agg #[.int .i64 a2_0, .int .i64 a2_1, .int .u32 a2_2, .int .u32 a2_3, .int .u32 a2_4, .int .u32 a2_5, .int .u32 a2_6, .int .u32 a2_7, .int .i64 a2_8]] (by rfl) rfl rfl (by (try simp only [List.map_toArray, List.map_cons, List.map_nil]); first | done | rfl | (simp only [List.length_drop, List.length_take]; rfl)) ?_
              with_reducible refine (chamberlainref09_May.calls a2_0 a2_1 a2_2 a2_3 a2_4 a2_5 a2_6 a2_7 a2_8 t218 _ A25.out).mono ?_
              rintro e w31 ⟨rfl, hb⟩
              refine ⟨_, rfl, ?_⟩
              have n0_ := Aside0.mk (blk_below (g := gb212) (o := .cells #[.int .i64 a2_0, .int .i64 a2_1, .int .u32 a2_2, .int .u32 a2_3, .int .u32 a2_4, .int .u32 a2_5, .int .u32 a2_6, .int .u32 a2_7, .int .i64 a2_8] 25 (0, 0)) (by (with_reducible repeat (first | refine blk_drewN ?_ _ | refine blk_drew ?_ | refine blk_alloc ?_ _)); exact BK212.out) hb)
              have n1_ := Aside0.mk (below_step (by repeat (first | (with_reducible first | exact HB.out | apply below_alloc | apply pw_below_drewN | apply below_drew1 | refine below_set ?_ GE212.out) | exact HB.out)) hb)
              clear BK212
              clear HB
              have BK212 := n0_
              have HB := n1_
              clear n0_ n1_
              (try clear hb)
              (try clear hb2)
              (try clear hk)
              (try clear hi)
              refine hK.out _ _ ⟨(blk_cell BK212.out 0).trans rfl, (blk_cell BK212.out 1).trans rfl, (blk_cell BK212.out 2).trans rfl, (blk_cell BK212.out 3).trans rfl, (blk_cell BK212.out 4).trans rfl, (blk_cell BK212.out 5).trans rfl, (blk_cell BK212.out 6).trans rfl, (blk_cell BK212.out 7).trans rfl, (blk_cell BK212.out 8).trans rfl⟩ (fun hHeld => ?_)
              clear hK K
              refine norm_ (a' := ?_) ?_ ?_
              rotate_left
              · show Act.put _ (some 46) _ = _
                simp only [Act.put, List.setIfInBounds_toArray, List.set_cons_zero, List.set_cons_succ, i64_w, i32_w]
                rfl
              refine pure_ (i := 12) (N := some 47) (v := ?_) (a' := ?_) #[true, true, true, true, true, true, true, true, true, true, true, true, true, false, false, false, false, false, false, false] rfl rfl (any_of HT_.out (by kernel_rfl)) (fun _ _ _ h => h) (Or.inl ⟨by rfl, ?_⟩) ?_ ?_
              rotate_left
              · intro w'
                go_simp
                with_reducible rfl
              rotate_left
              · simp only [Act.put, List.setIfInBounds_toArray, List.set_cons_zero, List.set_cons_succ, i64_w, i32_w]
                rfl
              refine pure_ (i := 13) (N := some 48) (v := ?_) (a' := ?_) #[true, true, true, true, true, true, true, true, true, true, true, true, true, true, false, false, false, false, false, false] rfl rfl (any_of HT_.out (by kernel_rfl)) (fun _ _ _ h => h) (Or.inl ⟨by rfl, ?_⟩) ?_ ?_
              rotate_left
              · intro w'
                go_simp
                with_reducible rfl
              rotate_left
              · simp only [Act.put, List.setIfInBounds_toArray, List.set_cons_zero, List.set_cons_succ, i64_w, i32_w]
                rfl
              refine pure_ (i := 14) (N := some 49) (v := ?_) (a' := ?_) #[true, true, true, true, true, true, true, true, true, true, true, true, true, true, true, false, false, false, false, false] rfl rfl (any_of HT_.out (by kernel_rfl)) (fun _ _ _ h => h) (Or.inl ⟨by rfl, ?_⟩) ?_ ?_
              rotate_left
              · intro w'
                go_simp
                with_reducible rfl
              rotate_left
              · simp only [Act.put, List.setIfInBounds_toArray, List.set_cons_zero, List.set_cons_succ, i64_w, i32_w]
                rfl
              refine pure_ (i := 15) (N := some 50) (v := undef) (a' := ?_) #[true, true, true, true, true, true, true, true, true, true, true, true, true, true, true, true, false, false, false, false] rfl rfl (any_of HT_.out (by kernel_rfl)) (fun _ _ _ h => h) (Or.inr ⟨by rfl, rfl⟩) ?_ ?_
              rotate_left
              · simp only [Act.put, List.setIfInBounds_toArray, List.set_cons_zero, List.set_cons_succ, i64_w, i32_w]
                rfl
              refine pure_ (i := 16) (N := some 51) (v := undef) (a' := ?_) #[true, true, true, true, true, true, true, true, true, true, true, true, true, true, true, true, true, false, false, false] rfl rfl (any_of HT_.out (by kernel_rfl)) (fun _ _ _ h => h) (Or.inr ⟨by rfl, rfl⟩) ?_ ?_
              rotate_left
              · simp only [Act.put, List.setIfInBounds_toArray, List.set_cons_zero, List.set_cons_succ, i64_w, i32_w]
                rfl
              refine pure_ (i := 17) (N := some 52) (v := undef) (a' := ?_) #[true, true, true, true, true, true, true, true, true, true, true, true, true, true, true, true, true, true, false, false] rfl rfl (any_of HT_.out (by kernel_rfl)) (fun _ _ _ h => h) (Or.inr ⟨by rfl, rfl⟩) ?_ ?_
              rotate_left
              · simp only [Act.put, List.setIfInBounds_toArray, List.set_cons_zero, List.set_cons_succ, i64_w, i32_w]
                rfl
              refine pure_ (i := 18) (N := some 53) (v := undef) (a' := ?_) #[true, true, true, true, true, true, true, true, true, true, true, true, true, true, true, true, true, true, true, false] rfl rfl (any_of HT_.out (by kernel_rfl)) (fun _ _ _ h => h) (Or.inr ⟨by rfl, rfl⟩) ?_ ?_
              rotate_left
              · simp only [Act.put, List.setIfInBounds_toArray, List.set_cons_zero, List.set_cons_succ, i64_w, i32_w]
                rfl
              refine pure_ (i := 19) (N := some 54) (v := ?_) (a' := ?_) #[true, true, true, true, true, true, true, true, true, true, true, true, true, true, true, true, true, true, true, true] rfl rfl (any_of HT_.out (by kernel_rfl)) (fun _ _ _ h => h) (Or.inl ⟨by rfl, ?_⟩) ?_ ?_
              rotate_left
              · intro w'
                go_simp
                with_reducible rfl
              rotate_left
              · simp only [Act.put, List.setIfInBounds_toArray, List.set_cons_zero, List.set_cons_succ, i64_w, i32_w]
                rfl
              refine done_ (done_of HT_.out (by kernel_rfl)) ?_
              try go_wp2
              go_meet
              case rel => exact ⟨_, (true), (by first | rfl | (simp; done) | (simp [*]; done)), H', ⟨by have := HJ7.out; first | omega | exact Nat.le_refl _⟩, ⟨by (with_reducible repeat (first | refine blk_drewN ?_ _ | refine blk_drew ?_ | refine blk_alloc ?_ _)); exact BK212.out⟩, ⟨by repeat (first | (with_reducible first | exact HB.out | apply below_alloc | apply pw_below_drewN | apply below_drew1 | refine below_set ?_ GE212.out) | exact HB.out)⟩⟩
            · rw [if_neg c26] at H
              have c26b0 : (t217 != t218) = false := by simpa using c26
              (try (have c26b1 : decide (t217 = t218) = true := by simpa using c26))
              (try (have c26b2 : (t217 == t218) = true := by simpa using c26))
              clear c26
              replace H := Option.bind_eq_some_iff.mp H
              obtain ⟨t219, A320, H⟩ := H
              replace H : (chamberlainlaw09_RunsDoes.j1 kj7 l0 a1 a3 a4 a5 a6 (!t219) a2_0 a2_1 a2_2 a2_3 a2_4 a2_5 a2_6 a2_7 a2_8) = some r := H
              have A32 := Aside0.mk A320
              clear A320
              have H' := Aside0.mk H
              clear H
              try go_wp2
              have n0_ := Aside0.mk (blk_drew BK212.out)
              have n1_ := Aside0.mk (below_drew1 HB.out)
              clear BK212
              clear HB
              have BK212 := n0_
              have HB := n1_
              clear n0_ n1_
              refine start_ (n := 20) (S := fun w' => w'.cell? ⟨gb212, 0, none⟩ = some (.int .i64 a2_0) ∧ w'.cell? ⟨gb212, 1, none⟩ = some (.int .i64 a2_1) ∧ w'.cell? ⟨gb212, 2, none⟩ = some (.int .u32 a2_2) ∧ w'.cell? ⟨gb212, 3, none⟩ = some (.int .u32 a2_3) ∧ w'.cell? ⟨gb212, 4, none⟩ = some (.int .u32 a2_4) ∧ w'.cell? ⟨gb212, 5, none⟩ = some (.int .u32 a2_5) ∧ w'.cell? ⟨gb212, 6, none⟩ = some (.int .u32 a2_6) ∧ w'.cell? ⟨gb212, 7, none⟩ = some (.int .u32 a2_7) ∧ w'.cell? ⟨gb212, 8, none⟩ = some (.int .i64 a2_8)) (ds := []) #[false, false, false, false, false, false, false, false, false, false, false, false, false, false, false, false, false, false, false, false] (by kernel_rfl) rfl rfl ⟨(blk_cell BK212.out 0).trans rfl, (blk_cell BK212.out 1).trans rfl, (blk_cell BK212.out 2).trans rfl, (blk_cell BK212.out 3).trans rfl, (blk_cell BK212.out 4).trans rfl, (blk_cell BK212.out 5).trans rfl, (blk_cell BK212.out 6).trans rfl, (blk_cell BK212.out 7).trans rfl, (blk_cell BK212.out 8).trans rfl⟩ (fun hHeld => ?_); refine with_tabW chamberlainlaw09_RunsDoes.tab3 chamberlainlaw09_RunsDoes.bits3 (fun HT_ HW_ => ?_)
              generalize wc.drew = w33 at BK212 HB hHeld ⊢
              refine pure_ (i := 0) (N := some 35) (v := ?_) (a' := ?_) #[true, false, false, false, false, false, false, false, false, false, false, false, false, false, false, false, false, false, false, false] rfl rfl (any_of HT_.out (by kernel_rfl)) (fun _ _ _ h => h) (Or.inl ⟨by rfl, ?_⟩) ?_ ?_
              rotate_left
              · intro w'
                go_simp
                with_reducible rfl
              rotate_left
              · simp only [Act.put, List.setIfInBounds_toArray, List.set_cons_zero, List.set_cons_succ, i64_w, i32_w]
                rfl
              refine pure_ (i := 1) (N := some 36) (v := ?_) (a' := ?_) #[true, true, false, false, false, false, false, false, false, false, false, false, false, false, false, false, false, false, false, false] rfl rfl (any_of HT_.out (by kernel_rfl)) (fun _ _ _ h => h) (Or.inl ⟨by rfl, ?_⟩) ?_ ?_
              rotate_left
              · intro w'
                go_simp
                with_reducible rfl
              rotate_left
              · simp only [Act.put, List.setIfInBounds_toArray, List.set_cons_zero, List.set_cons_succ, i64_w, i32_w]
                rfl
              refine pure_ (i := 3) (N := some 38) (v := ?_) (a' := ?_) #[true, true, false, true, false, false, false, false, false, false, false, false, false, false, false, false, false, false, false, false] rfl rfl (any_of HT_.out (by kernel_rfl)) (fun _ _ _ h => h) (Or.inl ⟨by rfl, ?_⟩) ?_ ?_
              rotate_left
              · intro w'
                go_simp
                with_reducible rfl
              rotate_left
              · simp only [Act.put, List.setIfInBounds_toArray, List.set_cons_zero, List.set_cons_succ, i64_w, i32_w]
                rfl
              refine pure_ (i := 4) (N := some 39) (v := ?_) (a' := ?_) #[true, true, false, true, true, false, false, false, false, false, false, false, false, false, false, false, false, false, false, false] rfl rfl (any_of HT_.out (by kernel_rfl)) (fun _ _ _ h => h) (Or.inl ⟨by rfl, ?_⟩) ?_ ?_
              rotate_left
              · intro w'
                go_simp
                with_reducible rfl
              rotate_left
              · simp only [Act.put, List.setIfInBounds_toArray, List.set_cons_zero, List.set_cons_succ, i64_w, i32_w]
                rfl
              refine one_ (i := 2) (N := some 37) #[true, true, true, true, true, false, false, false, false, false, false, false, false, false, false, false, false, false, false, false] rfl rfl (one_of HT_.out (by kernel_rfl)) (by decide) (fun K hK => ?_)
              refine goes_ Try.func8 (by kernel_rfl) rfl #[.slice A0 l0.length c0, .int .i64 a1] (by rfl) rfl rfl (by (try simp only [List.map_toArray, List.map_cons, List.map_nil]); first | done | rfl | (simp only [List.length_drop, List.length_take]; rfl)) ?_
              with_reducible refine (runs_Right.calls kj7 _ _ l0 a1 t215 _ ?side1 ?side2 A18.out).mono ?_
              (case side1 => repeat (first | exact (Kd.C_below HR0.out HB.out) | (with_reducible refine Kd.C_alloc ?_ _) | (with_reducible refine Kd.C_drewN ?_ _) | (with_reducible refine Kd.C_drew ?_)))
              (case side2 => exact HC0.out)
              rintro e w34 ⟨rfl, hb⟩
              refine ⟨_, rfl, ?_⟩
              have n0_ := Aside0.mk (blk_below (g := gb212) (o := .cells #[.int .i64 a2_0, .int .i64 a2_1, .int .u32 a2_2, .int .u32 a2_3, .int .u32 a2_4, .int .u32 a2_5, .int .u32 a2_6, .int .u32 a2_7, .int .i64 a2_8] 25 (0, 0)) (by (with_reducible repeat (first | refine blk_drewN ?_ _ | refine blk_drew ?_ | refine blk_alloc ?_ _)); exact BK212.out) hb)
              have n1_ := Aside0.mk (below_step (by repeat (first | (with_reducible first | exact HB.out | apply below_alloc | apply pw_below_drewN | apply below_drew1 | refine below_set ?_ GE212.out) | exact HB.out)) hb)
              clear BK212
              clear HB
              have BK212 := n0_
              have HB := n1_
              clear n0_ n1_
              (try clear hb)
              (try clear hb2)
              (try clear hk)
              (try clear hi)
              refine hK.out _ _ ⟨(blk_cell BK212.out 0).trans rfl, (blk_cell BK212.out 1).trans rfl, (blk_cell BK212.out 2).trans rfl, (blk_cell BK212.out 3).trans rfl, (blk_cell BK212.out 4).trans rfl, (blk_cell BK212.out 5).trans rfl, (blk_cell BK212.out 6).trans rfl, (blk_cell BK212.out 7).trans rfl, (blk_cell BK212.out 8).trans rfl⟩ (fun hHeld => ?_)
              clear hK K
              refine norm_ (a' := ?_) ?_ ?_
              rotate_left
              · show Act.put _ (some 37) _ = _
                simp only [Act.put, List.setIfInBounds_toArray, List.set_cons_zero, List.set_cons_succ, i64_w, i32_w]
                rfl
              refine one_ (i := 5) (N := some 40) #[true, true, true, true, true, true, false, false, false, false, false, false, false, false, false, false, false, false, false, false] rfl rfl (one_of HT_.out (by kernel_rfl)) (by decide) (fun K hK => ?_)
              refine goes_ Try.func9 (by kernel_rfl) rfl #[.slice A0 l0.length c0, .int .i64 a1] (by rfl) rfl rfl (by (try simp only [List.map_toArray, List.map_cons, List.map_nil]); first | done | rfl | (simp only [List.length_drop, List.length_take]; rfl)) ?_
              with_reducible refine (chamberlainref09_Right.calls kj7 _ _ l0 a1 t216 _ ?side1 ?side2 A19.out).mono ?_
              (case side1 => repeat (first | exact (Kd.C_below HR0.out HB.out) | (with_reducible refine Kd.C_alloc ?_ _) | (with_reducible refine Kd.C_drewN ?_ _) | (with_reducible refine Kd.C_drew ?_)))
              (case side2 => exact HC0.out)
              rintro e w35 ⟨rfl, hb⟩
              refine ⟨_, rfl, ?_⟩
              have n0_ := Aside0.mk (blk_below (g := gb212) (o := .cells #[.int .i64 a2_0, .int .i64 a2_1, .int .u32 a2_2, .int .u32 a2_3, .int .u32 a2_4, .int .u32 a2_5, .int .u32 a2_6, .int .u32 a2_7, .int .i64 a2_8] 25 (0, 0)) (by (with_reducible repeat (first | refine blk_drewN ?_ _ | refine blk_drew ?_ | refine blk_alloc ?_ _)); exact BK212.out) hb)
              have n1_ := Aside0.mk (below_step (by repeat (first | (with_reducible first | exact HB.out | apply below_alloc | apply pw_below_drewN | apply below_drew1 | refine below_set ?_ GE212.out) | exact HB.out)) hb)
              clear BK212
              clear HB
              have BK212 := n0_
              have HB := n1_
              clear n0_ n1_
              (try clear hb)
              (try clear hb2)
              (try clear hk)
              (try clear hi)
              refine hK.out _ _ ⟨(blk_cell BK212.out 0).trans rfl, (blk_cell BK212.out 1).trans rfl, (blk_cell BK212.out 2).trans rfl, (blk_cell BK212.out 3).trans rfl, (blk_cell BK212.out 4).trans rfl, (blk_cell BK212.out 5).trans rfl, (blk_cell BK212.out 6).trans rfl, (blk_cell BK212.out 7).trans rfl, (blk_cell BK212.out 8).trans rfl⟩ (fun hHeld => ?_)
              clear hK K
              refine norm_ (a' := ?_) ?_ ?_
              rotate_left
              · show Act.put _ (some 40) _ = _
                simp only [Act.put, List.setIfInBounds_toArray, List.set_cons_zero, List.set_cons_succ, i64_w, i32_w]
                rfl
              refine pure_ (i := 6) (N := some 41) (v := ?_) (a' := ?_) #[true, true, true, true, true, true, true, false, false, false, false, false, false, false, false, false, false, false, false, false] rfl rfl (any_of HT_.out (by kernel_rfl)) (fun _ _ _ h => h) (Or.inl ⟨by rfl, ?_⟩) ?_ ?_
              rotate_left
              · intro w'
                go_simp
                with_reducible rfl
              rotate_left
              · simp only [Act.put, List.setIfInBounds_toArray, List.set_cons_zero, List.set_cons_succ, i64_w, i32_w]
                rfl
              refine pure_ (i := 7) (N := some 42) (v := ?_) (a' := ?_) #[true, true, true, true, true, true, true, true, false, false, false, false, false, false, false, false, false, false, false, false] rfl rfl (any_of HT_.out (by kernel_rfl)) (fun _ _ _ h => h) (Or.inl ⟨by rfl, ?_⟩) ?_ ?_
              rotate_left
              · intro w'
                go_simp
                with_reducible rfl
              rotate_left
              · simp only [Act.put, List.setIfInBounds_toArray, List.set_cons_zero, List.set_cons_succ, i64_w, i32_w]
                rfl
              refine take_ (i := 8) (N := some 43) (v := ?_) (a' := ?_) #[true, true, true, true, true, true, true, true, true, false, false, false, false, false, false, false, false, false, false, false] rfl rfl (take_ofW HT_.out HW_.out (by kernel_rfl)) (fun _ _ _ h => h) (Or.inl ⟨by rfl, ?_⟩) hHeld ?_ ?_
              rotate_left
              · rintro w' ⟨s0, s1, s2, s3, s4, s5, s6, s7, s8⟩
                go_simp
                with_reducible rfl
              rotate_left
              · simp only [Act.put, List.setIfInBounds_toArray, List.set_cons_zero, List.set_cons_succ, i64_w, i32_w]
                rfl
              refine take_ (i := 10) (N := some 45) (v := ?_) (a' := ?_) #[true, true, true, true, true, true, true, true, true, false, true, false, false, false, false, false, false, false, false, false] rfl rfl (take_ofW HT_.out HW_.out (by kernel_rfl)) (fun _ _ _ h => h) (Or.inl ⟨by rfl, ?_⟩) hHeld ?_ ?_
              rotate_left
              · rintro w' ⟨s0, s1, s2, s3, s4, s5, s6, s7, s8⟩
                go_simp
                with_reducible rfl
              rotate_left
              · simp only [Act.put, List.setIfInBounds_toArray, List.set_cons_zero, List.set_cons_succ, i64_w, i32_w]
                rfl
              refine one_ (i := 9) (N := some 44) #[true, true, true, true, true, true, true, true, true, true, true, false, false, false, false, false, false, false, false, false] rfl rfl (one_of HT_.out (by kernel_rfl)) (by decide) (fun K hK => ?_)
              refine goes_ Try.func10 (by kernel_rfl) rfl #[.agg #[.int .i64 a2_0, .int .i64 a2_1, .int .u32 a2_2, .int .u32 a2_3, .int .u32 a2_4, .int .u32 a2_5, .int .u32 a2_6, .int .u32 a2_7, .int .i64 a2_8]] (by rfl) rfl rfl (by (try simp only [List.map_toArray, List.map_cons, List.map_nil]); first | done | rfl | (simp only [List.length_drop, List.length_take]; rfl)) ?_
              with_reducible refine (runs_May.calls a2_0 a2_1 a2_2 a2_3 a2_4 a2_5 a2_6 a2_7 a2_8 t217 _ A24.out).mono ?_
              rintro e w36 ⟨rfl, hb⟩
              refine ⟨_, rfl, ?_⟩
              have n0_ := Aside0.mk (blk_below (g := gb212) (o := .cells #[.int .i64 a2_0, .int .i64 a2_1, .int .u32 a2_2, .int .u32 a2_3, .int .u32 a2_4, .int .u32 a2_5, .int .u32 a2_6, .int .u32 a2_7, .int .i64 a2_8] 25 (0, 0)) (by (with_reducible repeat (first | refine blk_drewN ?_ _ | refine blk_drew ?_ | refine blk_alloc ?_ _)); exact BK212.out) hb)
              have n1_ := Aside0.mk (below_step (by repeat (first | (with_reducible first | exact HB.out | apply below_alloc | apply pw_below_drewN | apply below_drew1 | refine below_set ?_ GE212.out) | exact HB.out)) hb)
              clear BK212
              clear HB
              have BK212 := n0_
              have HB := n1_
              clear n0_ n1_
              (try clear hb)
              (try clear hb2)
              (try clear hk)
              (try clear hi)
              refine hK.out _ _ ⟨(blk_cell BK212.out 0).trans rfl, (blk_cell BK212.out 1).trans rfl, (blk_cell BK212.out 2).trans rfl, (blk_cell BK212.out 3).trans rfl, (blk_cell BK212.out 4).trans rfl, (blk_cell BK212.out 5).trans rfl, (blk_cell BK212.out 6).trans rfl, (blk_cell BK212.out 7).trans rfl, (blk_cell BK212.out 8).trans rfl⟩ (fun hHeld => ?_)
              clear hK K
              refine norm_ (a' := ?_) ?_ ?_
              rotate_left
              · show Act.put _ (some 44) _ = _
                simp only [Act.put, List.setIfInBounds_toArray, List.set_cons_zero, List.set_cons_succ, i64_w, i32_w]
                rfl
              refine one_ (i := 11) (N := some 46) #[true, true, true, true, true, true, true, true, true, true, true, true, false, false, false, false, false, false, false, false] rfl rfl (one_of HT_.out (by kernel_rfl)) (by decide) (fun K hK => ?_)
              refine goes_ Try.func11 (by kernel_rfl) rfl #[.agg #[.int .i64 a2_0, .int .i64 a2_1, .int .u32 a2_2, .int .u32 a2_3, .int .u32 a2_4, .int .u32 a2_5, .int .u32 a2_6, .int .u32 a2_7, .int .i64 a2_8]] (by rfl) rfl rfl (by (try simp only [List.map_toArray, List.map_cons, List.map_nil]); first | done | rfl | (simp only [List.length_drop, List.length_take]; rfl)) ?_
              with_reducible refine (chamberlainref09_May.calls a2_0 a2_1 a2_2 a2_3 a2_4 a2_5 a2_6 a2_7 a2_8 t218 _ A25.out).mono ?_
              rintro e w37 ⟨rfl, hb⟩
              refine ⟨_, rfl, ?_⟩
              have n0_ := Aside0.mk (blk_below (g := gb212) (o := .cells #[.int .i64 a2_0, .int .i64 a2_1, .int .u32 a2_2, .int .u32 a2_3, .int .u32 a2_4, .int .u32 a2_5, .int .u32 a2_6, .int .u32 a2_7, .int .i64 a2_8] 25 (0, 0)) (by (with_reducible repeat (first | refine blk_drewN ?_ _ | refine blk_drew ?_ | refine blk_alloc ?_ _)); exact BK212.out) hb)
              have n1_ := Aside0.mk (below_step (by repeat (first | (with_reducible first | exact HB.out | apply below_alloc | apply pw_below_drewN | apply below_drew1 | refine below_set ?_ GE212.out) | exact HB.out)) hb)
              clear BK212
              clear HB
              have BK212 := n0_
              have HB := n1_
              clear n0_ n1_
              (try clear hb)
              (try clear hb2)
              (try clear hk)
              (try clear hi)
              refine hK.out _ _ ⟨(blk_cell BK212.out 0).trans rfl, (blk_cell BK212.out 1).trans rfl, (blk_cell BK212.out 2).trans rfl, (blk_cell BK212.out 3).trans rfl, (blk_cell BK212.out 4).trans rfl, (blk_cell BK212.out 5).trans rfl, (blk_cell BK212.out 6).trans rfl, (blk_cell BK212.out 7).trans rfl, (blk_cell BK212.out 8).trans rfl⟩ (fun hHeld => ?_)
              clear hK K
              refine norm_ (a' := ?_) ?_ ?_
              rotate_left
              · show Act.put _ (some 46) _ = _
                simp only [Act.put, List.setIfInBounds_toArray, List.set_cons_zero, List.set_cons_succ, i64_w, i32_w]
                rfl
              refine pure_ (i := 12) (N := some 47) (v := ?_) (a' := ?_) #[true, true, true, true, true, true, true, true, true, true, true, true, true, false, false, false, false, false, false, false] rfl rfl (any_of HT_.out (by kernel_rfl)) (fun _ _ _ h => h) (Or.inl ⟨by rfl, ?_⟩) ?_ ?_
              rotate_left
              · intro w'
                go_simp
                with_reducible rfl
              rotate_left
              · simp only [Act.put, List.setIfInBounds_toArray, List.set_cons_zero, List.set_cons_succ, i64_w, i32_w]
                rfl
              refine pure_ (i := 13) (N := some 48) (v := ?_) (a' := ?_) #[true, true, true, true, true, true, true, true, true, true, true, true, true, true, false, false, false, false, false, false] rfl rfl (any_of HT_.out (by kernel_rfl)) (fun _ _ _ h => h) (Or.inl ⟨by rfl, ?_⟩) ?_ ?_
              rotate_left
              · intro w'
                go_simp
                with_reducible rfl
              rotate_left
              · simp only [Act.put, List.setIfInBounds_toArray, List.set_cons_zero, List.set_cons_succ, i64_w, i32_w]
                rfl
              refine pure_ (i := 14) (N := some 49) (v := ?_) (a' := ?_) #[true, true, true, true, true, true, true, true, true, true, true, true, true, true, true, false, false, false, false, false] rfl rfl (any_of HT_.out (by kernel_rfl)) (fun _ _ _ h => h) (Or.inl ⟨by rfl, ?_⟩) ?_ ?_
              rotate_left
              · intro w'
                go_simp
                with_reducible rfl
              rotate_left
              · simp only [Act.put, List.setIfInBounds_toArray, List.set_cons_zero, List.set_cons_succ, i64_w, i32_w]
                rfl
              refine pure_ (i := 15) (N := some 50) (v := ?_) (a' := ?_) #[true, true, true, true, true, true, true, true, true, true, true, true, true, true, true, true, false, false, false, false] rfl rfl (any_of HT_.out (by kernel_rfl)) (fun _ _ _ h => h) (Or.inl ⟨by rfl, ?_⟩) ?_ ?_
              rotate_left
              · intro w'
                go_simp
                with_reducible rfl
              rotate_left
              · simp only [Act.put, List.setIfInBounds_toArray, List.set_cons_zero, List.set_cons_succ, i64_w, i32_w]
                rfl
              refine pure_ (i := 16) (N := some 51) (v := ?_) (a' := ?_) #[true, true, true, true, true, true, true, true, true, true, true, true, true, true, true, true, true, false, false, false] rfl rfl (any_of HT_.out (by kernel_rfl)) (fun _ _ _ h => h) (Or.inl ⟨by rfl, ?_⟩) ?_ ?_
              rotate_left
              · intro w'
                go_simp
                with_reducible rfl
              rotate_left
              · simp only [Act.put, List.setIfInBounds_toArray, List.set_cons_zero, List.set_cons_succ, i64_w, i32_w]
                rfl
              refine one_ (i := 17) (N := some 52) #[true, true, true, true, true, true, true, true, true, true, true, true, true, true, true, true, true, true, false, false] rfl rfl (one_of HT_.out (by kernel_rfl)) (by decide) (fun K hK => ?_)
              refine goes_ Try.func9 (by kernel_rfl) rfl #[.slice A0 l0.length c0, .int .i64 a1] (by rfl) rfl rfl (by (try simp only [List.map_toArray, List.map_cons, List.map_nil]); first | done | rfl | (simp only [List.length_drop, List.length_take]; rfl)) ?_
              with_reducible refine (chamberlainref09_Right.calls kj7 _ _ l0 a1 t219 _ ?side1 ?side2 A32.out).mono ?_
              (case side1 => repeat (first | exact (Kd.C_below HR0.out HB.out) | (with_reducible refine Kd.C_alloc ?_ _) | (with_reducible refine Kd.C_drewN ?_ _) | (with_reducible refine Kd.C_drew ?_)))
              (case side2 => exact HC0.out)
              rintro e w38 ⟨rfl, hb⟩
              refine ⟨_, rfl, ?_⟩
              have n0_ := Aside0.mk (blk_below (g := gb212) (o := .cells #[.int .i64 a2_0, .int .i64 a2_1, .int .u32 a2_2, .int .u32 a2_3, .int .u32 a2_4, .int .u32 a2_5, .int .u32 a2_6, .int .u32 a2_7, .int .i64 a2_8] 25 (0, 0)) (by (with_reducible repeat (first | refine blk_drewN ?_ _ | refine blk_drew ?_ | refine blk_alloc ?_ _)); exact BK212.out) hb)
              have n1_ := Aside0.mk (below_step (by repeat (first | (with_reducible first | exact HB.out | apply below_alloc | apply pw_below_drewN | apply below_drew1 | refine below_set ?_ GE212.out) | exact HB.out)) hb)
              clear BK212
              clear HB
              have BK212 := n0_
              have HB := n1_
              clear n0_ n1_
              (try clear hb)
              (try clear hb2)
              (try clear hk)
              (try clear hi)
              refine hK.out _ _ ⟨(blk_cell BK212.out 0).trans rfl, (blk_cell BK212.out 1).trans rfl, (blk_cell BK212.out 2).trans rfl, (blk_cell BK212.out 3).trans rfl, (blk_cell BK212.out 4).trans rfl, (blk_cell BK212.out 5).trans rfl, (blk_cell BK212.out 6).trans rfl, (blk_cell BK212.out 7).trans rfl, (blk_cell BK212.out 8).trans rfl⟩ (fun hHeld => ?_)
              clear hK K
              refine norm_ (a' := ?_) ?_ ?_
              rotate_left
              · show Act.put _ (some 52) _ = _
                simp only [Act.put, List.setIfInBounds_toArray, List.set_cons_zero, List.set_cons_succ, i64_w, i32_w]
                rfl
              refine pure_ (i := 18) (N := some 53) (v := ?_) (a' := ?_) #[true, true, true, true, true, true, true, true, true, true, true, true, true, true, true, true, true, true, true, false] rfl rfl (any_of HT_.out (by kernel_rfl)) (fun _ _ _ h => h) (Or.inl ⟨by rfl, ?_⟩) ?_ ?_
              rotate_left
              · intro w'
                go_simp
                with_reducible rfl
              rotate_left
              · simp only [Act.put, List.setIfInBounds_toArray, List.set_cons_zero, List.set_cons_succ, i64_w, i32_w]
                rfl
              refine pure_ (i := 19) (N := some 54) (v := ?_) (a' := ?_) #[true, true, true, true, true, true, true, true, true, true, true, true, true, true, true, true, true, true, true, true] rfl rfl (any_of HT_.out (by kernel_rfl)) (fun _ _ _ h => h) (Or.inl ⟨by rfl, ?_⟩) ?_ ?_
              rotate_left
              · intro w'
                go_simp
                with_reducible rfl
              rotate_left
              · simp only [Act.put, List.setIfInBounds_toArray, List.set_cons_zero, List.set_cons_succ, i64_w, i32_w]
                rfl
              refine done_ (done_of HT_.out (by kernel_rfl)) ?_
              try go_wp2
              go_meet
              case rel => exact ⟨_, (!t219), (by first | rfl | (simp; done) | (simp [*]; done)), H', ⟨by have := HJ7.out; first | omega | exact Nat.le_refl _⟩, ⟨by (with_reducible repeat (first | refine blk_drewN ?_ _ | refine blk_drew ?_ | refine blk_alloc ?_ _)); exact BK212.out⟩, ⟨by repeat (first | (with_reducible first | exact HB.out | apply below_alloc | apply pw_below_drewN | apply below_drew1 | refine below_set ?_ GE212.out) | exact HB.out)⟩⟩
        case rest =>
          clear HC17
          try clear c1
          try clear c2
          try clear p2
          try clear c8
          try clear c9
          try clear c10
          try clear c11
          try clear c20
          try clear c20b0
          try clear c20b1
          try clear c20b2
          try clear c26
          try clear c26b0
          try clear c26b1
          try clear c26b2
          obtain ⟨kq, x54_16, rfl, HA, HJ16, BK212, HB⟩ := hcut
          cases kq with
          | zero => exact absurd HA.out (by simp [chamberlainlaw09_RunsDoes.j1])
          | succ kj16 =>
            have H := HA.out
            clear HA
            simp only [chamberlainlaw09_RunsDoes.j1] at H
            by_cases c39 : x54_16 = true
            · subst c39
              have H1 : ((runs_Right.f kj16 l0 a1).bind fun t220 => ((chamberlainref09_Right.f kj16 l0 a1).bind fun t221 => (if (t220 == t221) = true then ((runs_May.f a2_0 a2_1 a2_2 a2_3 a2_4 a2_5 a2_6 a2_7 a2_8).bind fun t222 => ((chamberlainref09_May.f a2_0 a2_1 a2_2 a2_3 a2_4 a2_5 a2_6 a2_7 a2_8).bind fun t223 => (some (t222 == t223)))) else (some false)))) = some r := by rw [if_pos rfl] at H; exact H
              clear H
              have H := H1
              clear H1
              replace H := Option.bind_eq_some_iff.mp H
              obtain ⟨t220, A400, H⟩ := H
              replace H : ((chamberlainref09_Right.f kj16 l0 a1).bind fun t221 => (if (t220 == t221) = true then ((runs_May.f a2_0 a2_1 a2_2 a2_3 a2_4 a2_5 a2_6 a2_7 a2_8).bind fun t222 => ((chamberlainref09_May.f a2_0 a2_1 a2_2 a2_3 a2_4 a2_5 a2_6 a2_7 a2_8).bind fun t223 => (some (t222 == t223)))) else (some false))) = some r := H
              have A40 := Aside0.mk A400
              clear A400
              replace H := Option.bind_eq_some_iff.mp H
              obtain ⟨t221, A410, H⟩ := H
              replace H : (if (t220 == t221) = true then ((runs_May.f a2_0 a2_1 a2_2 a2_3 a2_4 a2_5 a2_6 a2_7 a2_8).bind fun t222 => ((chamberlainref09_May.f a2_0 a2_1 a2_2 a2_3 a2_4 a2_5 a2_6 a2_7 a2_8).bind fun t223 => (some (t222 == t223)))) else (some false)) = some r := H
              have A41 := Aside0.mk A410
              clear A410
              by_cases c42 : (t220 == t221) = true
              · rw [if_pos c42] at H
                have c42b0 : (t220 == t221) = true := c42
                (try (have c42b1 : decide (t220 = t221) = true := by simpa using c42))
                (try (have c42b2 : (t220 == t221) = true := by simpa using c42))
                clear c42
                replace H := Option.bind_eq_some_iff.mp H
                obtain ⟨t222, A430, H⟩ := H
                replace H : ((chamberlainref09_May.f a2_0 a2_1 a2_2 a2_3 a2_4 a2_5 a2_6 a2_7 a2_8).bind fun t223 => (some (t222 == t223))) = some r := H
                have A43 := Aside0.mk A430
                clear A430
                replace H := Option.bind_eq_some_iff.mp H
                obtain ⟨t223, A440, H⟩ := H
                replace H : (some (t222 == t223)) = some r := H
                have A44 := Aside0.mk A440
                clear A440
                obtain rfl := Option.some.inj H
                try go_wp2
                have n0_ := Aside0.mk (blk_drew BK212.out)
                have n1_ := Aside0.mk (below_drew1 HB.out)
                clear BK212
                clear HB
                have BK212 := n0_
                have HB := n1_
                clear n0_ n1_
                refine start_ (n := 15) (S := fun w' => w'.cell? ⟨gb212, 0, none⟩ = some (.int .i64 a2_0) ∧ w'.cell? ⟨gb212, 1, none⟩ = some (.int .i64 a2_1) ∧ w'.cell? ⟨gb212, 2, none⟩ = some (.int .u32 a2_2) ∧ w'.cell? ⟨gb212, 3, none⟩ = some (.int .u32 a2_3) ∧ w'.cell? ⟨gb212, 4, none⟩ = some (.int .u32 a2_4) ∧ w'.cell? ⟨gb212, 5, none⟩ = some (.int .u32 a2_5) ∧ w'.cell? ⟨gb212, 6, none⟩ = some (.int .u32 a2_6) ∧ w'.cell? ⟨gb212, 7, none⟩ = some (.int .u32 a2_7) ∧ w'.cell? ⟨gb212, 8, none⟩ = some (.int .i64 a2_8)) (ds := []) #[false, false, false, false, false, false, false, false, false, false, false, false, false, false, false] (by kernel_rfl) rfl rfl ⟨(blk_cell BK212.out 0).trans rfl, (blk_cell BK212.out 1).trans rfl, (blk_cell BK212.out 2).trans rfl, (blk_cell BK212.out 3).trans rfl, (blk_cell BK212.out 4).trans rfl, (blk_cell BK212.out 5).trans rfl, (blk_cell BK212.out 6).trans rfl, (blk_cell BK212.out 7).trans rfl, (blk_cell BK212.out 8).trans rfl⟩ (fun hHeld => ?_); refine with_tabW chamberlainlaw09_RunsDoes.tab4 chamberlainlaw09_RunsDoes.bits4 (fun HT_ HW_ => ?_)
                generalize wc.drew = w45 at BK212 HB hHeld ⊢
                refine pure_ (i := 0) (N := some 55) (v := ?_) (a' := ?_) #[true, false, false, false, false, false, false, false, false, false, false, false, false, false, false] rfl rfl (any_of HT_.out (by kernel_rfl)) (fun _ _ _ h => h) (Or.inl ⟨by rfl, ?_⟩) ?_ ?_
                rotate_left
                · intro w'
                  go_simp
                  with_reducible rfl
                rotate_left
                · simp only [Act.put, List.setIfInBounds_toArray, List.set_cons_zero, List.set_cons_succ, i64_w, i32_w]
                  rfl
                refine pure_ (i := 1) (N := some 56) (v := ?_) (a' := ?_) #[true, true, false, false, false, false, false, false, false, false, false, false, false, false, false] rfl rfl (any_of HT_.out (by kernel_rfl)) (fun _ _ _ h => h) (Or.inl ⟨by rfl, ?_⟩) ?_ ?_
                rotate_left
                · intro w'
                  go_simp
                  with_reducible rfl
                rotate_left
                · simp only [Act.put, List.setIfInBounds_toArray, List.set_cons_zero, List.set_cons_succ, i64_w, i32_w]
                  rfl
                refine pure_ (i := 3) (N := some 58) (v := ?_) (a' := ?_) #[true, true, false, true, false, false, false, false, false, false, false, false, false, false, false] rfl rfl (any_of HT_.out (by kernel_rfl)) (fun _ _ _ h => h) (Or.inl ⟨by rfl, ?_⟩) ?_ ?_
                rotate_left
                · intro w'
                  go_simp
                  with_reducible rfl
                rotate_left
                · simp only [Act.put, List.setIfInBounds_toArray, List.set_cons_zero, List.set_cons_succ, i64_w, i32_w]
                  rfl
                refine pure_ (i := 4) (N := some 59) (v := ?_) (a' := ?_) #[true, true, false, true, true, false, false, false, false, false, false, false, false, false, false] rfl rfl (any_of HT_.out (by kernel_rfl)) (fun _ _ _ h => h) (Or.inl ⟨by rfl, ?_⟩) ?_ ?_
                rotate_left
                · intro w'
                  go_simp
                  with_reducible rfl
                rotate_left
                · simp only [Act.put, List.setIfInBounds_toArray, List.set_cons_zero, List.set_cons_succ, i64_w, i32_w]
                  rfl
                refine one_ (i := 2) (N := some 57) #[true, true, true, true, true, false, false, false, false, false, false, false, false, false, false] rfl rfl (one_of HT_.out (by kernel_rfl)) (by decide) (fun K hK => ?_)
                refine goes_ Try.func8 (by kernel_rfl) rfl #[.slice A0 l0.length c0, .int .i64 a1] (by rfl) rfl rfl (by (try simp only [List.map_toArray, List.map_cons, List.map_nil]); first | done | rfl | (simp only [List.length_drop, List.length_take]; rfl)) ?_
                with_reducible refine (runs_Right.calls kj16 _ _ l0 a1 t220 _ ?side1 ?side2 A40.out).mono ?_
                (case side1 => repeat (first | exact (Kd.C_below HR0.out HB.out) | (with_reducible refine Kd.C_alloc ?_ _) | (with_reducible refine Kd.C_drewN ?_ _) | (with_reducible refine Kd.C_drew ?_)))
                (case side2 => exact HC0.out)
                rintro e w46 ⟨rfl, hb⟩
                refine ⟨_, rfl, ?_⟩
                have n0_ := Aside0.mk (blk_below (g := gb212) (o := .cells #[.int .i64 a2_0, .int .i64 a2_1, .int .u32 a2_2, .int .u32 a2_3, .int .u32 a2_4, .int .u32 a2_5, .int .u32 a2_6, .int .u32 a2_7, .int .i64 a2_8] 25 (0, 0)) (by (with_reducible repeat (first | refine blk_drewN ?_ _ | refine blk_drew ?_ | refine blk_alloc ?_ _)); exact BK212.out) hb)
                have n1_ := Aside0.mk (below_step (by repeat (first | (with_reducible first | exact HB.out | apply below_alloc | apply pw_below_drewN | apply below_drew1 | refine below_set ?_ GE212.out) | exact HB.out)) hb)
                clear BK212
                clear HB
                have BK212 := n0_
                have HB := n1_
                clear n0_ n1_
                (try clear hb)
                (try clear hb2)
                (try clear hk)
                (try clear hi)
                refine hK.out _ _ ⟨(blk_cell BK212.out 0).trans rfl, (blk_cell BK212.out 1).trans rfl, (blk_cell BK212.out 2).trans rfl, (blk_cell BK212.out 3).trans rfl, (blk_cell BK212.out 4).trans rfl, (blk_cell BK212.out 5).trans rfl, (blk_cell BK212.out 6).trans rfl, (blk_cell BK212.out 7).trans rfl, (blk_cell BK212.out 8).trans rfl⟩ (fun hHeld => ?_)
                clear hK K
                refine norm_ (a' := ?_) ?_ ?_
                rotate_left
                · show Act.put _ (some 57) _ = _
                  simp only [Act.put, List.setIfInBounds_toArray, List.set_cons_zero, List.set_cons_succ, i64_w, i32_w]
                  rfl
                refine one_ (i := 5) (N := some 60) #[true, true, true, true, true, true, false, false, false, false, false, false, false, false, false] rfl rfl (one_of HT_.out (by kernel_rfl)) (by decide) (fun K hK => ?_)
                refine goes_ Try.func9 (by kernel_rfl) rfl #[.slice A0 l0.length c0, .int .i64 a1] (by rfl) rfl rfl (by (try simp only [List.map_toArray, List.map_cons, List.map_nil]); first | done | rfl | (simp only [List.length_drop, List.length_take]; rfl)) ?_
                with_reducible refine (chamberlainref09_Right.calls kj16 _ _ l0 a1 t221 _ ?side1 ?side2 A41.out).mono ?_
                (case side1 => repeat (first | exact (Kd.C_below HR0.out HB.out) | (with_reducible refine Kd.C_alloc ?_ _) | (with_reducible refine Kd.C_drewN ?_ _) | (with_reducible refine Kd.C_drew ?_)))
                (case side2 => exact HC0.out)
                rintro e w47 ⟨rfl, hb⟩
                refine ⟨_, rfl, ?_⟩
                have n0_ := Aside0.mk (blk_below (g := gb212) (o := .cells #[.int .i64 a2_0, .int .i64 a2_1, .int .u32 a2_2, .int .u32 a2_3, .int .u32 a2_4, .int .u32 a2_5, .int .u32 a2_6, .int .u32 a2_7, .int .i64 a2_8] 25 (0, 0)) (by (with_reducible repeat (first | refine blk_drewN ?_ _ | refine blk_drew ?_ | refine blk_alloc ?_ _)); exact BK212.out) hb)
                have n1_ := Aside0.mk (below_step (by repeat (first | (with_reducible first | exact HB.out | apply below_alloc | apply pw_below_drewN | apply below_drew1 | refine below_set ?_ GE212.out) | exact HB.out)) hb)
                clear BK212
                clear HB
                have BK212 := n0_
                have HB := n1_
                clear n0_ n1_
                (try clear hb)
                (try clear hb2)
                (try clear hk)
                (try clear hi)
                refine hK.out _ _ ⟨(blk_cell BK212.out 0).trans rfl, (blk_cell BK212.out 1).trans rfl, (blk_cell BK212.out 2).trans rfl, (blk_cell BK212.out 3).trans rfl, (blk_cell BK212.out 4).trans rfl, (blk_cell BK212.out 5).trans rfl, (blk_cell BK212.out 6).trans rfl, (blk_cell BK212.out 7).trans rfl, (blk_cell BK212.out 8).trans rfl⟩ (fun hHeld => ?_)
                clear hK K
                refine norm_ (a' := ?_) ?_ ?_
                rotate_left
                · show Act.put _ (some 60) _ = _
                  simp only [Act.put, List.setIfInBounds_toArray, List.set_cons_zero, List.set_cons_succ, i64_w, i32_w]
                  rfl
                refine pure_ (i := 6) (N := some 61) (v := ?_) (a' := ?_) #[true, true, true, true, true, true, true, false, false, false, false, false, false, false, false] rfl rfl (any_of HT_.out (by kernel_rfl)) (fun _ _ _ h => h) (Or.inl ⟨by rfl, ?_⟩) ?_ ?_
                rotate_left
                · intro w'
                  go_simp
                  with_reducible rfl
                rotate_left
                · simp only [Act.put, List.setIfInBounds_toArray, List.set_cons_zero, List.set_cons_succ, i64_w, i32_w]
                  rfl
                refine pure_ (i := 7) (N := some 62) (v := ?_) (a' := ?_) #[true, true, true, true, true, true, true, true, false, false, false, false, false, false, false] rfl rfl (any_of HT_.out (by kernel_rfl)) (fun _ _ _ h => h) (Or.inl ⟨by rfl, ?_⟩) ?_ ?_
                rotate_left
                · intro w'
                  go_simp
                  with_reducible rfl
                rotate_left
                · simp only [Act.put, List.setIfInBounds_toArray, List.set_cons_zero, List.set_cons_succ, i64_w, i32_w]
                  rfl
                refine take_ (i := 8) (N := some 63) (v := ?_) (a' := ?_) #[true, true, true, true, true, true, true, true, true, false, false, false, false, false, false] rfl rfl (take_ofW HT_.out HW_.out (by kernel_rfl)) (fun _ _ _ h => h) (Or.inl ⟨by rfl, ?_⟩) hHeld ?_ ?_
                rotate_left
                · rintro w' ⟨s0, s1, s2, s3, s4, s5, s6, s7, s8⟩
                  go_simp
                  with_reducible rfl
                rotate_left
                · simp only [Act.put, List.setIfInBounds_toArray, List.set_cons_zero, List.set_cons_succ, i64_w, i32_w]
                  rfl
                refine take_ (i := 10) (N := some 65) (v := ?_) (a' := ?_) #[true, true, true, true, true, true, true, true, true, false, true, false, false, false, false] rfl rfl (take_ofW HT_.out HW_.out (by kernel_rfl)) (fun _ _ _ h => h) (Or.inl ⟨by rfl, ?_⟩) hHeld ?_ ?_
                rotate_left
                · rintro w' ⟨s0, s1, s2, s3, s4, s5, s6, s7, s8⟩
                  go_simp
                  with_reducible rfl
                rotate_left
                · simp only [Act.put, List.setIfInBounds_toArray, List.set_cons_zero, List.set_cons_succ, i64_w, i32_w]
                  rfl
                refine one_ (i := 9) (N := some 64) #[true, true, true, true, true, true, true, true, true, true, true, false, false, false, false] rfl rfl (one_of HT_.out (by kernel_rfl)) (by decide) (fun K hK => ?_)
                refine goes_ Try.func10 (by kernel_rfl) rfl #[.agg #[.int .i64 a2_0, .int .i64 a2_1, .int .u32 a2_2, .int .u32 a2_3, .int .u32 a2_4, .int .u32 a2_5, .int .u32 a2_6, .int .u32 a2_7, .int .i64 a2_8]] (by rfl) rfl rfl (by (try simp only [List.map_toArray, List.map_cons, List.map_nil]); first | done | rfl | (simp only [List.length_drop, List.length_take]; rfl)) ?_
                with_reducible refine (runs_May.calls a2_0 a2_1 a2_2 a2_3 a2_4 a2_5 a2_6 a2_7 a2_8 t222 _ A43.out).mono ?_
                rintro e w48 ⟨rfl, hb⟩
                refine ⟨_, rfl, ?_⟩
                have n0_ := Aside0.mk (blk_below (g := gb212) (o := .cells #[.int .i64 a2_0, .int .i64 a2_1, .int .u32 a2_2, .int .u32 a2_3, .int .u32 a2_4, .int .u32 a2_5, .int .u32 a2_6, .int .u32 a2_7, .int .i64 a2_8] 25 (0, 0)) (by (with_reducible repeat (first | refine blk_drewN ?_ _ | refine blk_drew ?_ | refine blk_alloc ?_ _)); exact BK212.out) hb)
                have n1_ := Aside0.mk (below_step (by repeat (first | (with_reducible first | exact HB.out | apply below_alloc | apply pw_below_drewN | apply below_drew1 | refine below_set ?_ GE212.out) | exact HB.out)) hb)
                clear BK212
                clear HB
                have BK212 := n0_
                have HB := n1_
                clear n0_ n1_
                (try clear hb)
                (try clear hb2)
                (try clear hk)
                (try clear hi)
                refine hK.out _ _ ⟨(blk_cell BK212.out 0).trans rfl, (blk_cell BK212.out 1).trans rfl, (blk_cell BK212.out 2).trans rfl, (blk_cell BK212.out 3).trans rfl, (blk_cell BK212.out 4).trans rfl, (blk_cell BK212.out 5).trans rfl, (blk_cell BK212.out 6).trans rfl, (blk_cell BK212.out 7).trans rfl, (blk_cell BK212.out 8).trans rfl⟩ (fun hHeld => ?_)
                clear hK K
                refine norm_ (a' := ?_) ?_ ?_
                rotate_left
                · show Act.put _ (some 64) _ = _
                  simp only [Act.put, List.setIfInBounds_toArray, List.set_cons_zero, List.set_cons_succ, i64_w, i32_w]
                  rfl
                refine one_ (i := 11) (N := some 66) #[true, true, true, true, true, true, true, true, true, true, true, true, false, false, false] rfl rfl (one_of HT_.out (by kernel_rfl)) (by decide) (fun K hK => ?_)
                refine goes_ Try.func11 (by kernel_rfl) rfl #[.agg #[.int .i64 a2_0, .int .i64 a2_1, .int .u32 a2_2, .int .u32 a2_3, .int .u32 a2_4, .int .u32 a2_5, .int .u32 a2_6, .int .u32 a2_7, .int .i64 a2_8]] (by rfl) rfl rfl (by (try simp only [List.map_toArray, List.map_cons, List.map_nil]); first | done | rfl | (simp only [List.length_drop, List.length_take]; rfl)) ?_
                with_reducible refine (chamberlainref09_May.calls a2_0 a2_1 a2_2 a2_3 a2_4 a2_5 a2_6 a2_7 a2_8 t223 _ A44.out).mono ?_
                rintro e w49 ⟨rfl, hb⟩
                refine ⟨_, rfl, ?_⟩
                have n0_ := Aside0.mk (blk_below (g := gb212) (o := .cells #[.int .i64 a2_0, .int .i64 a2_1, .int .u32 a2_2, .int .u32 a2_3, .int .u32 a2_4, .int .u32 a2_5, .int .u32 a2_6, .int .u32 a2_7, .int .i64 a2_8] 25 (0, 0)) (by (with_reducible repeat (first | refine blk_drewN ?_ _ | refine blk_drew ?_ | refine blk_alloc ?_ _)); exact BK212.out) hb)
                have n1_ := Aside0.mk (below_step (by repeat (first | (with_reducible first | exact HB.out | apply below_alloc | apply pw_below_drewN | apply below_drew1 | refine below_set ?_ GE212.out) | exact HB.out)) hb)
                clear BK212
                clear HB
                have BK212 := n0_
                have HB := n1_
                clear n0_ n1_
                (try clear hb)
                (try clear hb2)
                (try clear hk)
                (try clear hi)
                refine hK.out _ _ ⟨(blk_cell BK212.out 0).trans rfl, (blk_cell BK212.out 1).trans rfl, (blk_cell BK212.out 2).trans rfl, (blk_cell BK212.out 3).trans rfl, (blk_cell BK212.out 4).trans rfl, (blk_cell BK212.out 5).trans rfl, (blk_cell BK212.out 6).trans rfl, (blk_cell BK212.out 7).trans rfl, (blk_cell BK212.out 8).trans rfl⟩ (fun hHeld => ?_)
                clear hK K
                refine norm_ (a' := ?_) ?_ ?_
                rotate_left
                · show Act.put _ (some 66) _ = _
                  simp only [Act.put, List.setIfInBounds_toArray, List.set_cons_zero, List.set_cons_succ, i64_w, i32_w]
                  rfl
                refine pure_ (i := 12) (N := some 67) (v := ?_) (a' := ?_) #[true, true, true, true, true, true, true, true, true, true, true, true, true, false, false] rfl rfl (any_of HT_.out (by kernel_rfl)) (fun _ _ _ h => h) (Or.inl ⟨by rfl, ?_⟩) ?_ ?_
                rotate_left
                · intro w'
                  go_simp
                  with_reducible rfl
                rotate_left
                · simp only [Act.put, List.setIfInBounds_toArray, List.set_cons_zero, List.set_cons_succ, i64_w, i32_w]
                  rfl
                refine pure_ (i := 13) (N := some 68) (v := ?_) (a' := ?_) #[true, true, true, true, true, true, true, true, true, true, true, true, true, true, false] rfl rfl (any_of HT_.out (by kernel_rfl)) (fun _ _ _ h => h) (Or.inl ⟨by rfl, ?_⟩) ?_ ?_
                rotate_left
                · intro w'
                  go_simp
                  with_reducible rfl
                rotate_left
                · simp only [Act.put, List.setIfInBounds_toArray, List.set_cons_zero, List.set_cons_succ, i64_w, i32_w]
                  rfl
                refine pure_ (i := 14) (N := some 14) (v := ?_) (a' := ?_) #[true, true, true, true, true, true, true, true, true, true, true, true, true, true, true] rfl rfl (any_of HT_.out (by kernel_rfl)) (fun _ _ _ h => h) (Or.inl ⟨by rfl, ?_⟩) ?_ ?_
                rotate_left
                · intro w'
                  go_simp
                  with_reducible rfl
                rotate_left
                · simp only [Act.put, List.setIfInBounds_toArray, List.set_cons_zero, List.set_cons_succ, i64_w, i32_w]
                  rfl
                refine done_ (done_of HT_.out (by kernel_rfl)) ?_
                try go_wp2
                go_ret
                exact ⟨by first | rfl | (simp [errW_none, errW_some] <;> rfl) | (simp [*, errW_none, errW_some] <;> rfl), by repeat (first | (with_reducible first | exact HB.out | apply below_alloc | apply pw_below_drewN | apply below_drew1 | refine below_set ?_ GE212.out) | exact HB.out)⟩
              · rw [if_neg c42] at H
                have c42b0 : (t220 == t221) = false := by simpa using c42
                (try (have c42b1 : decide (t220 = t221) = false := by simpa using c42))
                (try (have c42b2 : (t220 == t221) = false := by simpa using c42))
                (try (have c42b3 : ¬ (t220 = t221) := by simpa using c42))
                clear c42
                exact absurd (hT.out.symm.trans (Option.some.inj H).symm) (by decide)
            · replace c39 := Bool.eq_false_iff.mpr c39
              subst c39
              have H1 : ((runs_Add.f kj16 l0 a1 a2_0 a2_1 a2_2 a2_3 a2_4 a2_5 a2_6 a2_7 a2_8).bind fun bt224 => ((chamberlainref09_Add.f l0 a1 a2_0 a2_1 a2_2 a2_3 a2_4 a2_5 a2_6 a2_7 a2_8).bind fun bt228 => ((runs_Set.f l0 a3 a2_0 a2_1 a2_2 a2_3 a2_4 a2_5 a2_6 a2_7 a2_8).bind fun bt232 => ((chamberlainref09_Set.f kj16 l0 a3 a2_0 a2_1 a2_2 a2_3 a2_4 a2_5 a2_6 a2_7 a2_8).bind fun bt236 => ((runs_Next.f kj16 l0 a3 a4 a5 a6).bind fun bt240 => ((chamberlainref09_Next.f kj16 l0 a3 a4 a5 a6).bind fun bt242 => ((chamberlainref09_Same.f kj16 bt224.1 bt228.1).bind fun t244 => (if t244 = true then (if bt224.2 = bt228.2 then ((chamberlainref09_Same.f kj16 bt232.1 bt236.1).bind fun t245 => (if t245 = true then (if bt232.2 = bt236.2 then (if bt240.1 = bt242.1 then (some (bt240.2 == bt242.2)) else (some false)) else (some false)) else (some false))) else (some false)) else (some false))))))))) = some r := by rw [if_neg (show ¬ (false = true) by decide)] at H; exact H
              clear H
              have H := H1
              clear H1
              replace H := Option.bind_eq_some_iff.mp H
              obtain ⟨⟨t224, t227⟩, A530, H⟩ := H
              replace H : ((chamberlainref09_Add.f l0 a1 a2_0 a2_1 a2_2 a2_3 a2_4 a2_5 a2_6 a2_7 a2_8).bind fun bt228 => ((runs_Set.f l0 a3 a2_0 a2_1 a2_2 a2_3 a2_4 a2_5 a2_6 a2_7 a2_8).bind fun bt232 => ((chamberlainref09_Set.f kj16 l0 a3 a2_0 a2_1 a2_2 a2_3 a2_4 a2_5 a2_6 a2_7 a2_8).bind fun bt236 => ((runs_Next.f kj16 l0 a3 a4 a5 a6).bind fun bt240 => ((chamberlainref09_Next.f kj16 l0 a3 a4 a5 a6).bind fun bt242 => ((chamberlainref09_Same.f kj16 t224 bt228.1).bind fun t244 => (if t244 = true then (if t227 = bt228.2 then ((chamberlainref09_Same.f kj16 bt232.1 bt236.1).bind fun t245 => (if t245 = true then (if bt232.2 = bt236.2 then (if bt240.1 = bt242.1 then (some (bt240.2 == bt242.2)) else (some false)) else (some false)) else (some false))) else (some false)) else (some false)))))))) = some r := H
              have A53 := Aside0.mk A530
              clear A530
              replace H := Option.bind_eq_some_iff.mp H
              obtain ⟨⟨t228, t231⟩, A540, H⟩ := H
              replace H : ((runs_Set.f l0 a3 a2_0 a2_1 a2_2 a2_3 a2_4 a2_5 a2_6 a2_7 a2_8).bind fun bt232 => ((chamberlainref09_Set.f kj16 l0 a3 a2_0 a2_1 a2_2 a2_3 a2_4 a2_5 a2_6 a2_7 a2_8).bind fun bt236 => ((runs_Next.f kj16 l0 a3 a4 a5 a6).bind fun bt240 => ((chamberlainref09_Next.f kj16 l0 a3 a4 a5 a6).bind fun bt242 => ((chamberlainref09_Same.f kj16 t224 t228).bind fun t244 => (if t244 = true then (if t227 = t231 then ((chamberlainref09_Same.f kj16 bt232.1 bt236.1).bind fun t245 => (if t245 = true then (if bt232.2 = bt236.2 then (if bt240.1 = bt242.1 then (some (bt240.2 == bt242.2)) else (some false)) else (some false)) else (some false))) else (some false)) else (some false))))))) = some r := H
              have A54 := Aside0.mk A540
              clear A540
              replace H := Option.bind_eq_some_iff.mp H
              obtain ⟨⟨t232, t235⟩, A550, H⟩ := H
              replace H : ((chamberlainref09_Set.f kj16 l0 a3 a2_0 a2_1 a2_2 a2_3 a2_4 a2_5 a2_6 a2_7 a2_8).bind fun bt236 => ((runs_Next.f kj16 l0 a3 a4 a5 a6).bind fun bt240 => ((chamberlainref09_Next.f kj16 l0 a3 a4 a5 a6).bind fun bt242 => ((chamberlainref09_Same.f kj16 t224 t228).bind fun t244 => (if t244 = true then (if t227 = t231 then ((chamberlainref09_Same.f kj16 t232 bt236.1).bind fun t245 => (if t245 = true then (if t235 = bt236.2 then (if bt240.1 = bt242.1 then (some (bt240.2 == bt242.2)) else (some false)) else (some false)) else (some false))) else (some false)) else (some false)))))) = some r := H
              have A55 := Aside0.mk A550
              clear A550
              replace H := Option.bind_eq_some_iff.mp H
              obtain ⟨⟨t236, t239⟩, A560, H⟩ := H
              replace H : ((runs_Next.f kj16 l0 a3 a4 a5 a6).bind fun bt240 => ((chamberlainref09_Next.f kj16 l0 a3 a4 a5 a6).bind fun bt242 => ((chamberlainref09_Same.f kj16 t224 t228).bind fun t244 => (if t244 = true then (if t227 = t231 then ((chamberlainref09_Same.f kj16 t232 t236).bind fun t245 => (if t245 = true then (if t235 = t239 then (if bt240.1 = bt242.1 then (some (bt240.2 == bt242.2)) else (some false)) else (some false)) else (some false))) else (some false)) else (some false))))) = some r := H
              have A56 := Aside0.mk A560
              clear A560
              replace H := Option.bind_eq_some_iff.mp H
              obtain ⟨⟨t240, t241⟩, A570, H⟩ := H
              replace H : ((chamberlainref09_Next.f kj16 l0 a3 a4 a5 a6).bind fun bt242 => ((chamberlainref09_Same.f kj16 t224 t228).bind fun t244 => (if t244 = true then (if t227 = t231 then ((chamberlainref09_Same.f kj16 t232 t236).bind fun t245 => (if t245 = true then (if t235 = t239 then (if t240 = bt242.1 then (some (t241 == bt242.2)) else (some false)) else (some false)) else (some false))) else (some false)) else (some false)))) = some r := H
              have A57 := Aside0.mk A570
              clear A570
              replace H := Option.bind_eq_some_iff.mp H
              obtain ⟨⟨t242, t243⟩, A580, H⟩ := H
              replace H : ((chamberlainref09_Same.f kj16 t224 t228).bind fun t244 => (if t244 = true then (if t227 = t231 then ((chamberlainref09_Same.f kj16 t232 t236).bind fun t245 => (if t245 = true then (if t235 = t239 then (if t240 = t242 then (some (t241 == t243)) else (some false)) else (some false)) else (some false))) else (some false)) else (some false))) = some r := H
              have A58 := Aside0.mk A580
              clear A580
              replace H := Option.bind_eq_some_iff.mp H
              obtain ⟨t244, A590, H⟩ := H
              replace H : (if t244 = true then (if t227 = t231 then ((chamberlainref09_Same.f kj16 t232 t236).bind fun t245 => (if t245 = true then (if t235 = t239 then (if t240 = t242 then (some (t241 == t243)) else (some false)) else (some false)) else (some false))) else (some false)) else (some false)) = some r := H
              have A59 := Aside0.mk A590
              clear A590
              by_cases c60 : t244 = true
              · subst c60
                have H1 : (if t227 = t231 then ((chamberlainref09_Same.f kj16 t232 t236).bind fun t245 => (if t245 = true then (if t235 = t239 then (if t240 = t242 then (some (t241 == t243)) else (some false)) else (some false)) else (some false))) else (some false)) = some r := by rw [if_pos rfl] at H; exact H
                clear H
                have H := H1
                clear H1
                by_cases c61 : t227 = t231
                · rw [if_pos c61] at H
                  have c61b0 : (t227 == t231) = true := beq_iff_eq.mpr c61
                  have c61b1 : (t227 != t231) = false := bne_eq_false_iff_eq.mpr c61
                  clear c61
                  replace H := Option.bind_eq_some_iff.mp H
                  obtain ⟨t245, A620, H⟩ := H
                  replace H : (if t245 = true then (if t235 = t239 then (if t240 = t242 then (some (t241 == t243)) else (some false)) else (some false)) else (some false)) = some r := H
                  have A62 := Aside0.mk A620
                  clear A620
                  by_cases c63 : t245 = true
                  · subst c63
                    have H1 : (if t235 = t239 then (if t240 = t242 then (some (t241 == t243)) else (some false)) else (some false)) = some r := by rw [if_pos rfl] at H; exact H
                    clear H
                    have H := H1
                    clear H1
                    by_cases c64 : t235 = t239
                    · rw [if_pos c64] at H
                      have c64b0 : (t235 == t239) = true := beq_iff_eq.mpr c64
                      have c64b1 : (t235 != t239) = false := bne_eq_false_iff_eq.mpr c64
                      clear c64
                      by_cases c65 : t240 = t242
                      · rw [if_pos c65] at H
                        have c65b0 : (t240 == t242) = true := beq_iff_eq.mpr c65
                        have c65b1 : (t240 != t242) = false := bne_eq_false_iff_eq.mpr c65
                        clear c65
                        obtain rfl := Option.some.inj H
                        have hcz66_0 : wc.cell? ⟨gb212, 0, none⟩ = some (.int .i64 a2_0) := (blk_cell BK212.out 0).trans rfl
                        have hcz66_1 : wc.cell? ⟨gb212, 1, none⟩ = some (.int .i64 a2_1) := (blk_cell BK212.out 1).trans rfl
                        have hcz66_2 : wc.cell? ⟨gb212, 2, none⟩ = some (.int .u32 a2_2) := (blk_cell BK212.out 2).trans rfl
                        have hcz66_3 : wc.cell? ⟨gb212, 3, none⟩ = some (.int .u32 a2_3) := (blk_cell BK212.out 3).trans rfl
                        have hcz66_4 : wc.cell? ⟨gb212, 4, none⟩ = some (.int .u32 a2_4) := (blk_cell BK212.out 4).trans rfl
                        have hcz66_5 : wc.cell? ⟨gb212, 5, none⟩ = some (.int .u32 a2_5) := (blk_cell BK212.out 5).trans rfl
                        have hcz66_6 : wc.cell? ⟨gb212, 6, none⟩ = some (.int .u32 a2_6) := (blk_cell BK212.out 6).trans rfl
                        have hcz66_7 : wc.cell? ⟨gb212, 7, none⟩ = some (.int .u32 a2_7) := (blk_cell BK212.out 7).trans rfl
                        have hcz66_8 : wc.cell? ⟨gb212, 8, none⟩ = some (.int .i64 a2_8) := (blk_cell BK212.out 8).trans rfl
                        have hfz66_0 := blk_frozen BK212.out 0
                        have hfz66_1 := blk_frozen BK212.out 1
                        have hfz66_2 := blk_frozen BK212.out 2
                        have hfz66_3 := blk_frozen BK212.out 3
                        have hfz66_4 := blk_frozen BK212.out 4
                        have hfz66_5 := blk_frozen BK212.out 5
                        have hfz66_6 := blk_frozen BK212.out 6
                        have hfz66_7 := blk_frozen BK212.out 7
                        have hfz66_8 := blk_frozen BK212.out 8
                        go_wp2_with (first | ((with_reducible refine gate_callee (f := 12) rfl ?_); refine goesL_ (some 73) rfl rfl Try.func12 (by kernel_rfl) rfl #[.slice A0 l0.length c0, .int .i64 a1, .agg #[.int .i64 a2_0, .int .i64 a2_1, .int .u32 a2_2, .int .u32 a2_3, .int .u32 a2_4, .int .u32 a2_5, .int .u32 a2_6, .int .u32 a2_7, .int .i64 a2_8]] rfl (by (try simp only [List.map_toArray, List.map_cons, List.map_nil]); first | done | rfl | (simp only [List.length_drop, List.length_take]; rfl)) ?_; (with_reducible refine (runs_Add.calls kj16 (fun k_ => k_ < w.heap.size) _ _ l0 a1 a2_0 a2_1 a2_2 a2_3 a2_4 a2_5 a2_6 a2_7 a2_8 t224 t227 _ ?side1 A53.out).mono ?_); (case side1 => exact Kd.V_mk HC0.out (Kd.F_below (Kd.C_F k25_heap HR0.out) (by repeat (first | (with_reducible first | exact HB.out | apply below_alloc | apply pw_below_drewN | apply below_drew1 | refine below_set ?_ GE212.out) | exact HB.out)))); rintro e w67 ⟨v225, rfl, ho0, hb⟩; refine ⟨_, rfl, ?_⟩; have n0_ := Aside0.mk (Kd.V_lower (Kd.V_mono (ok' := fun k_ => k_ ≠ gb212) ho0 (fun k_ hk_ => Or.elim hk_ (fun hs_ => fun e_ => Nat.not_le.2 hs_ (by rw [e_]; exact GW212.out)) (fun hn_ => (Kd.freshB (g := gb212) (o := .cells #[.int .i64 a2_0, .int .i64 a2_1, .int .u32 a2_2, .int .u32 a2_3, .int .u32 a2_4, .int .u32 a2_5, .int .u32 a2_6, .int .u32 a2_7, .int .i64 a2_8] 25 (0, 0)) (by (with_reducible repeat (first | refine blk_drewN ?_ _ | refine blk_drew ?_ | refine blk_alloc ?_ _)); exact BK212.out) k_ hn_)))) (below_size (by repeat (first | (with_reducible first | exact HB.out | apply below_alloc | apply pw_below_drewN | apply below_drew1 | refine below_set ?_ GE212.out) | exact HB.out)))); have n1_ := Aside0.mk (blk_below (g := gb212) (o := .cells #[.int .i64 a2_0, .int .i64 a2_1, .int .u32 a2_2, .int .u32 a2_3, .int .u32 a2_4, .int .u32 a2_5, .int .u32 a2_6, .int .u32 a2_7, .int .i64 a2_8] 25 (0, 0)) (by (with_reducible repeat (first | refine blk_drewN ?_ _ | refine blk_drew ?_ | refine blk_alloc ?_ _)); exact BK212.out) hb); have n2_ := Aside0.mk (below_step (by repeat (first | (with_reducible first | exact HB.out | apply below_alloc | apply pw_below_drewN | apply below_drew1 | refine below_set ?_ GE212.out) | exact HB.out)) hb); clear BK212; clear HB; have HO226 := n0_; have BK212 := n1_; have HB := n2_; clear n0_ n1_ n2_; (try clear hb); (try clear hb2); (try clear hk); (try clear hi); (try clear ho0); have hcz68_0 : w67.cell? ⟨gb212, 0, none⟩ = some (.int .i64 a2_0) := (blk_cell BK212.out 0).trans rfl; have hcz68_1 : w67.cell? ⟨gb212, 1, none⟩ = some (.int .i64 a2_1) := (blk_cell BK212.out 1).trans rfl; have hcz68_2 : w67.cell? ⟨gb212, 2, none⟩ = some (.int .u32 a2_2) := (blk_cell BK212.out 2).trans rfl; have hcz68_3 : w67.cell? ⟨gb212, 3, none⟩ = some (.int .u32 a2_3) := (blk_cell BK212.out 3).trans rfl; have hcz68_4 : w67.cell? ⟨gb212, 4, none⟩ = some (.int .u32 a2_4) := (blk_cell BK212.out 4).trans rfl; have hcz68_5 : w67.cell? ⟨gb212, 5, none⟩ = some (.int .u32 a2_5) := (blk_cell BK212.out 5).trans rfl; have hcz68_6 : w67.cell? ⟨gb212, 6, none⟩ = some (.int .u32 a2_6) := (blk_cell BK212.out 6).trans rfl; have hcz68_7 : w67.cell? ⟨gb212, 7, none⟩ = some (.int .u32 a2_7) := (blk_cell BK212.out 7).trans rfl; have hcz68_8 : w67.cell? ⟨gb212, 8, none⟩ = some (.int .i64 a2_8) := (blk_cell BK212.out 8).trans rfl; have hfz68_0 := blk_frozen BK212.out 0; have hfz68_1 := blk_frozen BK212.out 1; have hfz68_2 := blk_frozen BK212.out 2; have hfz68_3 := blk_frozen BK212.out 3; have hfz68_4 := blk_frozen BK212.out 4; have hfz68_5 := blk_frozen BK212.out 5; have hfz68_6 := blk_frozen BK212.out 6; have hfz68_7 := blk_frozen BK212.out 7; have hfz68_8 := blk_frozen BK212.out 8) | ((with_reducible refine gate_callee (f := 13) rfl ?_); refine goesL_ (some 80) rfl rfl Try.func13 (by kernel_rfl) rfl #[.slice A0 l0.length c0, .int .i64 a1, .agg #[.int .i64 a2_0, .int .i64 a2_1, .int .u32 a2_2, .int .u32 a2_3, .int .u32 a2_4, .int .u32 a2_5, .int .u32 a2_6, .int .u32 a2_7, .int .i64 a2_8]] rfl (by (try simp only [List.map_toArray, List.map_cons, List.map_nil]); first | done | rfl | (simp only [List.length_drop, List.length_take]; rfl)) ?_; (with_reducible refine (chamberlainref09_Add.calls (fun k_ => k_ < w.heap.size) _ _ l0 a1 a2_0 a2_1 a2_2 a2_3 a2_4 a2_5 a2_6 a2_7 a2_8 t228 t231 _ ?side1 A54.out).mono ?_); (case side1 => exact Kd.V_mk HC0.out (Kd.F_below (Kd.C_F k25_heap HR0.out) (by repeat (first | (with_reducible first | exact HB.out | apply below_alloc | apply pw_below_drewN | apply below_drew1 | refine below_set ?_ GE212.out) | exact HB.out)))); rintro e w69 ⟨v229, rfl, ho0, hb⟩; refine ⟨_, rfl, ?_⟩; have n0_ := Aside0.mk (Kd.V_below (by (with_reducible repeat (first | apply Kd.V_alloc | apply Kd.V_drewN | apply Kd.V_drew)); exact HO226.out) hb); have n1_ := Aside0.mk (Kd.V_lower (Kd.V_mono (ok' := fun k_ => k_ ≠ gb212) ho0 (fun k_ hk_ => Or.elim hk_ (fun hs_ => fun e_ => Nat.not_le.2 hs_ (by rw [e_]; exact GW212.out)) (fun hn_ => (Kd.freshB (g := gb212) (o := .cells #[.int .i64 a2_0, .int .i64 a2_1, .int .u32 a2_2, .int .u32 a2_3, .int .u32 a2_4, .int .u32 a2_5, .int .u32 a2_6, .int .u32 a2_7, .int .i64 a2_8] 25 (0, 0)) (by (with_reducible repeat (first | refine blk_drewN ?_ _ | refine blk_drew ?_ | refine blk_alloc ?_ _)); exact BK212.out) k_ hn_)))) (below_size (by repeat (first | (with_reducible first | exact HB.out | apply below_alloc | apply pw_below_drewN | apply below_drew1 | refine below_set ?_ GE212.out) | exact HB.out)))); have n2_ := Aside0.mk (blk_below (g := gb212) (o := .cells #[.int .i64 a2_0, .int .i64 a2_1, .int .u32 a2_2, .int .u32 a2_3, .int .u32 a2_4, .int .u32 a2_5, .int .u32 a2_6, .int .u32 a2_7, .int .i64 a2_8] 25 (0, 0)) (by (with_reducible repeat (first | refine blk_drewN ?_ _ | refine blk_drew ?_ | refine blk_alloc ?_ _)); exact BK212.out) hb); have n3_ := Aside0.mk (below_step (by repeat (first | (with_reducible first | exact HB.out | apply below_alloc | apply pw_below_drewN | apply below_drew1 | refine below_set ?_ GE212.out) | exact HB.out)) hb); clear HO226; clear BK212; clear HB; have HO226 := n0_; have HO230 := n1_; have BK212 := n2_; have HB := n3_; clear n0_ n1_ n2_ n3_; (try clear hb); (try clear hb2); (try clear hk); (try clear hi); (try clear ho0); have hcz70_0 : w69.cell? ⟨gb212, 0, none⟩ = some (.int .i64 a2_0) := (blk_cell BK212.out 0).trans rfl; have hcz70_1 : w69.cell? ⟨gb212, 1, none⟩ = some (.int .i64 a2_1) := (blk_cell BK212.out 1).trans rfl; have hcz70_2 : w69.cell? ⟨gb212, 2, none⟩ = some (.int .u32 a2_2) := (blk_cell BK212.out 2).trans rfl; have hcz70_3 : w69.cell? ⟨gb212, 3, none⟩ = some (.int .u32 a2_3) := (blk_cell BK212.out 3).trans rfl; have hcz70_4 : w69.cell? ⟨gb212, 4, none⟩ = some (.int .u32 a2_4) := (blk_cell BK212.out 4).trans rfl; have hcz70_5 : w69.cell? ⟨gb212, 5, none⟩ = some (.int .u32 a2_5) := (blk_cell BK212.out 5).trans rfl; have hcz70_6 : w69.cell? ⟨gb212, 6, none⟩ = some (.int .u32 a2_6) := (blk_cell BK212.out 6).trans rfl; have hcz70_7 : w69.cell? ⟨gb212, 7, none⟩ = some (.int .u32 a2_7) := (blk_cell BK212.out 7).trans rfl; have hcz70_8 : w69.cell? ⟨gb212, 8, none⟩ = some (.int .i64 a2_8) := (blk_cell BK212.out 8).trans rfl; have hfz70_0 := blk_frozen BK212.out 0; have hfz70_1 := blk_frozen BK212.out 1; have hfz70_2 := blk_frozen BK212.out 2; have hfz70_3 := blk_frozen BK212.out 3; have hfz70_4 := blk_frozen BK212.out 4; have hfz70_5 := blk_frozen BK212.out 5; have hfz70_6 := blk_frozen BK212.out 6; have hfz70_7 := blk_frozen BK212.out 7; have hfz70_8 := blk_frozen BK212.out 8) | ((with_reducible refine gate_callee (f := 14) rfl ?_); refine goesL_ (some 87) rfl rfl Try.func14 (by kernel_rfl) rfl #[.slice A0 l0.length c0, .int .i64 a3, .agg #[.int .i64 a2_0, .int .i64 a2_1, .int .u32 a2_2, .int .u32 a2_3, .int .u32 a2_4, .int .u32 a2_5, .int .u32 a2_6, .int .u32 a2_7, .int .i64 a2_8]] rfl (by (try simp only [List.map_toArray, List.map_cons, List.map_nil]); first | done | rfl | (simp only [List.length_drop, List.length_take]; rfl)) ?_; (with_reducible refine (runs_Set.calls (fun k_ => k_ < w.heap.size) _ _ l0 a3 a2_0 a2_1 a2_2 a2_3 a2_4 a2_5 a2_6 a2_7 a2_8 t232 t235 _ ?side1 A55.out).mono ?_); (case side1 => exact Kd.V_mk HC0.out (Kd.F_below (Kd.C_F k25_heap HR0.out) (by repeat (first | (with_reducible first | exact HB.out | apply below_alloc | apply pw_below_drewN | apply below_drew1 | refine below_set ?_ GE212.out) | exact HB.out)))); rintro e w71 ⟨v233, rfl, ho0, hb⟩; refine ⟨_, rfl, ?_⟩; have n0_ := Aside0.mk (Kd.V_below (by (with_reducible repeat (first | apply Kd.V_alloc | apply Kd.V_drewN | apply Kd.V_drew)); exact HO226.out) hb); have n1_ := Aside0.mk (Kd.V_below (by (with_reducible repeat (first | apply Kd.V_alloc | apply Kd.V_drewN | apply Kd.V_drew)); exact HO230.out) hb); have n2_ := Aside0.mk (Kd.V_lower (Kd.V_mono (ok' := fun k_ => k_ ≠ gb212) ho0 (fun k_ hk_ => Or.elim hk_ (fun hs_ => fun e_ => Nat.not_le.2 hs_ (by rw [e_]; exact GW212.out)) (fun hn_ => (Kd.freshB (g := gb212) (o := .cells #[.int .i64 a2_0, .int .i64 a2_1, .int .u32 a2_2, .int .u32 a2_3, .int .u32 a2_4, .int .u32 a2_5, .int .u32 a2_6, .int .u32 a2_7, .int .i64 a2_8] 25 (0, 0)) (by (with_reducible repeat (first | refine blk_drewN ?_ _ | refine blk_drew ?_ | refine blk_alloc ?_ _)); exact BK212.out) k_ hn_)))) (below_size (by repeat (first | (with_reducible first | exact HB.out | apply below_alloc | apply pw_below_drewN | apply below_drew1 | refine below_set ?_ GE212.out) | exact HB.out)))); have n3_ := Aside0.mk (blk_below (g := gb212) (o := .cells #[.int .i64 a2_0, .int .i64 a2_1, .int .u32 a2_2, .int .u32 a2_3, .int .u32 a2_4, .int .u32 a2_5, .int .u32 a2_6, .int .u32 a2_7, .int .i64 a2_8] 25 (0, 0)) (by (with_reducible repeat (first | refine blk_drewN ?_ _ | refine blk_drew ?_ | refine blk_alloc ?_ _)); exact BK212.out) hb); have n4_ := Aside0.mk (below_step (by repeat (first | (with_reducible first | exact HB.out | apply below_alloc | apply pw_below_drewN | apply below_drew1 | refine below_set ?_ GE212.out) | exact HB.out)) hb); clear HO226; clear HO230; clear BK212; clear HB; have HO226 := n0_; have HO230 := n1_; have HO234 := n2_; have BK212 := n3_; have HB := n4_; clear n0_ n1_ n2_ n3_ n4_; (try clear hb); (try clear hb2); (try clear hk); (try clear hi); (try clear ho0); have hcz72_0 : w71.cell? ⟨gb212, 0, none⟩ = some (.int .i64 a2_0) := (blk_cell BK212.out 0).trans rfl; have hcz72_1 : w71.cell? ⟨gb212, 1, none⟩ = some (.int .i64 a2_1) := (blk_cell BK212.out 1).trans rfl; have hcz72_2 : w71.cell? ⟨gb212, 2, none⟩ = some (.int .u32 a2_2) := (blk_cell BK212.out 2).trans rfl; have hcz72_3 : w71.cell? ⟨gb212, 3, none⟩ = some (.int .u32 a2_3) := (blk_cell BK212.out 3).trans rfl; have hcz72_4 : w71.cell? ⟨gb212, 4, none⟩ = some (.int .u32 a2_4) := (blk_cell BK212.out 4).trans rfl; have hcz72_5 : w71.cell? ⟨gb212, 5, none⟩ = some (.int .u32 a2_5) := (blk_cell BK212.out 5).trans rfl; have hcz72_6 : w71.cell? ⟨gb212, 6, none⟩ = some (.int .u32 a2_6) := (blk_cell BK212.out 6).trans rfl; have hcz72_7 : w71.cell? ⟨gb212, 7, none⟩ = some (.int .u32 a2_7) := (blk_cell BK212.out 7).trans rfl; have hcz72_8 : w71.cell? ⟨gb212, 8, none⟩ = some (.int .i64 a2_8) := (blk_cell BK212.out 8).trans rfl; have hfz72_0 := blk_frozen BK212.out 0; have hfz72_1 := blk_frozen BK212.out 1; have hfz72_2 := blk_frozen BK212.out 2; have hfz72_3 := blk_frozen BK212.out 3; have hfz72_4 := blk_frozen BK212.out 4; have hfz72_5 := blk_frozen BK212.out 5; have hfz72_6 := blk_frozen BK212.out 6; have hfz72_7 := blk_frozen BK212.out 7; have hfz72_8 := blk_frozen BK212.out 8) | ((with_reducible refine gate_callee (f := 15) rfl ?_); refine goesL_ (some 94) rfl rfl Try.func15 (by kernel_rfl) rfl #[.slice A0 l0.length c0, .int .i64 a3, .agg #[.int .i64 a2_0, .int .i64 a2_1, .int .u32 a2_2, .int .u32 a2_3, .int .u32 a2_4, .int .u32 a2_5, .int .u32 a2_6, .int .u32 a2_7, .int .i64 a2_8]] rfl (by (try simp only [List.map_toArray, List.map_cons, List.map_nil]); first | done | rfl | (simp only [List.length_drop, List.length_take]; rfl)) ?_; (with_reducible refine (chamberlainref09_Set.calls kj16 (fun k_ => k_ < w.heap.size) _ _ l0 a3 a2_0 a2_1 a2_2 a2_3 a2_4 a2_5 a2_6 a2_7 a2_8 t236 t239 _ ?side1 A56.out).mono ?_); (case side1 => exact Kd.V_mk HC0.out (Kd.F_below (Kd.C_F k25_heap HR0.out) (by repeat (first | (with_reducible first | exact HB.out | apply below_alloc | apply pw_below_drewN | apply below_drew1 | refine below_set ?_ GE212.out) | exact HB.out)))); rintro e w73 ⟨v237, rfl, ho0, hb⟩; refine ⟨_, rfl, ?_⟩; have n0_ := Aside0.mk (Kd.V_below (by (with_reducible repeat (first | apply Kd.V_alloc | apply Kd.V_drewN | apply Kd.V_drew)); exact HO226.out) hb); have n1_ := Aside0.mk (Kd.V_below (by (with_reducible repeat (first | apply Kd.V_alloc | apply Kd.V_drewN | apply Kd.V_drew)); exact HO230.out) hb); have n2_ := Aside0.mk (Kd.V_below (by (with_reducible repeat (first | apply Kd.V_alloc | apply Kd.V_drewN | apply Kd.V_drew)); exact HO234.out) hb); have n3_ := Aside0.mk (Kd.V_lower (Kd.V_mono (ok' := fun k_ => k_ ≠ gb212) ho0 (fun k_ hk_ => Or.elim hk_ (fun hs_ => fun e_ => Nat.not_le.2 hs_ (by rw [e_]; exact GW212.out)) (fun hn_ => (Kd.freshB (g := gb212) (o := .cells #[.int .i64 a2_0, .int .i64 a2_1, .int .u32 a2_2, .int .u32 a2_3, .int .u32 a2_4, .int .u32 a2_5, .int .u32 a2_6, .int .u32 a2_7, .int .i64 a2_8] 25 (0, 0)) (by (with_reducible repeat (first | refine blk_drewN ?_ _ | refine blk_drew ?_ | refine blk_alloc ?_ _)); exact BK212.out) k_ hn_)))) (below_size (by repeat (first | (with_reducible first | exact HB.out | apply below_alloc | apply pw_below_drewN | apply below_drew1 | refine below_set ?_ GE212.out) | exact HB.out)))); have n4_ := Aside0.mk (blk_below (g := gb212) (o := .cells #[.int .i64 a2_0, .int .i64 a2_1, .int .u32 a2_2, .int .u32 a2_3, .int .u32 a2_4, .int .u32 a2_5, .int .u32 a2_6, .int .u32 a2_7, .int .i64 a2_8] 25 (0, 0)) (by (with_reducible repeat (first | refine blk_drewN ?_ _ | refine blk_drew ?_ | refine blk_alloc ?_ _)); exact BK212.out) hb); have n5_ := Aside0.mk (below_step (by repeat (first | (with_reducible first | exact HB.out | apply below_alloc | apply pw_below_drewN | apply below_drew1 | refine below_set ?_ GE212.out) | exact HB.out)) hb); clear HO226; clear HO230; clear HO234; clear BK212; clear HB; have HO226 := n0_; have HO230 := n1_; have HO234 := n2_; have HO238 := n3_; have BK212 := n4_; have HB := n5_; clear n0_ n1_ n2_ n3_ n4_ n5_; (try clear hb); (try clear hb2); (try clear hk); (try clear hi); (try clear ho0)) | ((with_reducible refine gate_callee (f := 16) rfl ?_); refine goesL_ (some 103) rfl rfl Try.func16 (by kernel_rfl) rfl #[.slice A0 l0.length c0, .int .i64 a3, .int .i64 a4, .int .i64 a5, .int .i64 a6] rfl (by (try simp only [List.map_toArray, List.map_cons, List.map_nil]); first | done | rfl | (simp only [List.length_drop, List.length_take]; rfl)) ?_; (with_reducible refine (runs_Next.calls kj16 _ _ l0 a3 a4 a5 a6 t240 t241 _ ?side1 ?side2 A57.out).mono ?_); (case side1 => repeat (first | exact (Kd.C_below HR0.out HB.out) | (with_reducible refine Kd.C_alloc ?_ _) | (with_reducible refine Kd.C_drewN ?_ _) | (with_reducible refine Kd.C_drew ?_))); (case side2 => exact HC0.out); rintro e w74 ⟨rfl, hb⟩; refine ⟨_, rfl, ?_⟩; have n0_ := Aside0.mk (Kd.V_below (by (with_reducible repeat (first | apply Kd.V_alloc | apply Kd.V_drewN | apply Kd.V_drew)); exact HO226.out) hb); have n1_ := Aside0.mk (Kd.V_below (by (with_reducible repeat (first | apply Kd.V_alloc | apply Kd.V_drewN | apply Kd.V_drew)); exact HO230.out) hb); have n2_ := Aside0.mk (Kd.V_below (by (with_reducible repeat (first | apply Kd.V_alloc | apply Kd.V_drewN | apply Kd.V_drew)); exact HO234.out) hb); have n3_ := Aside0.mk (Kd.V_below (by (with_reducible repeat (first | apply Kd.V_alloc | apply Kd.V_drewN | apply Kd.V_drew)); exact HO238.out) hb); have n4_ := Aside0.mk (blk_below (g := gb212) (o := .cells #[.int .i64 a2_0, .int .i64 a2_1, .int .u32 a2_2, .int .u32 a2_3, .int .u32 a2_4, .int .u32 a2_5, .int .u32 a2_6, .int .u32 a2_7, .int .i64 a2_8] 25 (0, 0)) (by (with_reducible repeat (first | refine blk_drewN ?_ _ | refine blk_drew ?_ | refine blk_alloc ?_ _)); exact BK212.out) hb); have n5_ := Aside0.mk (below_step (by repeat (first | (with_reducible first | exact HB.out | apply below_alloc | apply pw_below_drewN | apply below_drew1 | refine below_set ?_ GE212.out) | exact HB.out)) hb); clear HO226; clear HO230; clear HO234; clear HO238; clear BK212; clear HB; have HO226 := n0_; have HO230 := n1_; have HO234 := n2_; have HO238 := n3_; have BK212 := n4_; have HB := n5_; clear n0_ n1_ n2_ n3_ n4_ n5_; (try clear hb); (try clear hb2); (try clear hk); (try clear hi)) | ((with_reducible refine gate_callee (f := 17) rfl ?_); refine goesL_ (some 112) rfl rfl Try.func17 (by kernel_rfl) rfl #[.slice A0 l0.length c0, .int .i64 a3, .int .i64 a4, .int .i64 a5, .int .i64 a6] rfl (by (try simp only [List.map_toArray, List.map_cons, List.map_nil]); first | done | rfl | (simp only [List.length_drop, List.length_take]; rfl)) ?_; (with_reducible refine (chamberlainref09_Next.calls kj16 _ _ l0 a3 a4 a5 a6 t242 t243 _ ?side1 ?side2 A58.out).mono ?_); (case side1 => repeat (first | exact (Kd.C_below HR0.out HB.out) | (with_reducible refine Kd.C_alloc ?_ _) | (with_reducible refine Kd.C_drewN ?_ _) | (with_reducible refine Kd.C_drew ?_))); (case side2 => exact HC0.out); rintro e w' ⟨rfl, ⟨nd, rfl⟩⟩; refine ⟨_, rfl, ?_⟩; obtain ⟨Ao75, co75, eo75⟩ := Kd.V_slice HO226.out; subst eo75; obtain ⟨Ao76, co76, eo76⟩ := Kd.V_slice HO230.out; subst eo76) | ((with_reducible refine gate_callee (f := 18) rfl ?_); refine goesL_ (some 117) rfl rfl Try.func18 (by kernel_rfl) rfl #[.slice Ao75 t224.length co75, .slice Ao76 t228.length co76] rfl (by (try simp only [List.map_toArray, List.map_cons, List.map_nil]); first | done | rfl | (simp only [List.length_drop, List.length_take]; rfl)) ?_; (with_reducible refine (chamberlainref09_Same.calls kj16 _ _ t224 _ _ t228 true _ ?side1 ?side2 ?side3 ?side4 A59.out).mono ?_); (case side1 => repeat (first | exact (Kd.V_reads' HO226.out).2.2 | (with_reducible refine Kd.C_alloc ?_ _) | (with_reducible refine Kd.C_drewN ?_ _) | (with_reducible refine Kd.C_drew ?_))); (case side2 => exact (Kd.V_reads' HO226.out).2.1); (case side3 => repeat (first | exact (Kd.V_reads' HO230.out).2.2 | (with_reducible refine Kd.C_alloc ?_ _) | (with_reducible refine Kd.C_drewN ?_ _) | (with_reducible refine Kd.C_drew ?_))); (case side4 => exact (Kd.V_reads' HO230.out).2.1); rintro e w' ⟨rfl, ⟨nd, rfl⟩⟩; refine ⟨_, rfl, ?_⟩; obtain ⟨Ao77, co77, eo77⟩ := Kd.V_slice HO234.out; subst eo77; obtain ⟨Ao78, co78, eo78⟩ := Kd.V_slice HO238.out; subst eo78) | (go_at_call 18; (with_reducible refine (chamberlainref09_Same.calls kj16 _ _ t232 _ _ t236 true _ ?side1 ?side2 ?side3 ?side4 A62.out).mono ?_); (case side1 => repeat (first | exact (Kd.V_reads' HO234.out).2.2 | (with_reducible refine Kd.C_alloc ?_ _) | (with_reducible refine Kd.C_drewN ?_ _) | (with_reducible refine Kd.C_drew ?_))); (case side2 => exact (Kd.V_reads' HO234.out).2.1); (case side3 => repeat (first | exact (Kd.V_reads' HO238.out).2.2 | (with_reducible refine Kd.C_alloc ?_ _) | (with_reducible refine Kd.C_drewN ?_ _) | (with_reducible refine Kd.C_drew ?_))); (case side4 => exact (Kd.V_reads' HO238.out).2.1); rintro e w' ⟨rfl, ⟨nd, rfl⟩⟩))
                        go_ret
                        exact ⟨by first | rfl | (simp [errW_none, errW_some] <;> rfl) | (simp [*, errW_none, errW_some] <;> rfl), by repeat (first | (with_reducible first | exact HB.out | apply below_alloc | apply pw_below_drewN | apply below_drew1 | refine below_set ?_ GE212.out) | exact HB.out)⟩
                      · rw [if_neg c65] at H
                        have c65b0 : (t240 == t242) = false := beq_eq_false_iff_ne.mpr c65
                        have c65b1 : (t240 != t242) = true := bne_iff_ne.mpr c65
                        exact absurd (hT.out.symm.trans (Option.some.inj H).symm) (by decide)
                    · rw [if_neg c64] at H
                      have c64b0 : (t235 == t239) = false := beq_eq_false_iff_ne.mpr c64
                      have c64b1 : (t235 != t239) = true := bne_iff_ne.mpr c64
                      exact absurd (hT.out.symm.trans (Option.some.inj H).symm) (by decide)
                  · replace c63 := Bool.eq_false_iff.mpr c63
                    subst c63
                    have H1 : (some false) = some r := by rw [if_neg (show ¬ (false = true) by decide)] at H; exact H
                    clear H
                    have H := H1
                    clear H1
                    exact absurd (hT.out.symm.trans (Option.some.inj H).symm) (by decide)
                · rw [if_neg c61] at H
                  have c61b0 : (t227 == t231) = false := beq_eq_false_iff_ne.mpr c61
                  have c61b1 : (t227 != t231) = true := bne_iff_ne.mpr c61
                  exact absurd (hT.out.symm.trans (Option.some.inj H).symm) (by decide)
              · replace c60 := Bool.eq_false_iff.mpr c60
                subst c60
                have H1 : (some false) = some r := by rw [if_neg (show ¬ (false = true) by decide)] at H; exact H
                clear H
                have H := H1
                clear H1
                exact absurd (hT.out.symm.trans (Option.some.inj H).symm) (by decide)

end Go.Proofs.Ytjhopebkflgcbaa.PRunsDoes
