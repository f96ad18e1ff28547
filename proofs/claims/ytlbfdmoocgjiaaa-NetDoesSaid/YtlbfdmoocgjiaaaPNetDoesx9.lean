-- Written for this claim by wip/tools/myprint.py (print.py's forms; proofs of the faked functions by hand).
import Derived.Test.YtlbfdmoocgjiaaaPNetDoesx0
import Derived.Test.YtlbfdmoocgjiaaaPNetDoesx1
import Derived.Test.YtlbfdmoocgjiaaaPNetDoesx2
import Derived.Test.YtlbfdmoocgjiaaaPNetDoesx3
import Derived.Test.YtlbfdmoocgjiaaaPNetDoesx4
import Derived.Test.YtlbfdmoocgjiaaaPNetDoesx5
import Derived.Test.YtlbfdmoocgjiaaaPNetDoesx6
import Derived.Test.YtlbfdmoocgjiaaaPNetDoesx7
import Derived.Test.YtlbfdmoocgjiaaaPNetDoesx8
namespace Go.Proofs.Ytlbfdmoocgjiaaa.PNetDoes
open Go.RowKit Go.Proofs.YtlbfdmoocgjiaaaW.PrintWords Go.Proofs.YtlbfdmoocgjiaaaW.PrintLast Go.Proofs.YtlbfdmoocgjiaaaW.PrintMore
attribute [local go_sem] max2_int min2_int max_two min_two max_three min_three max_four min_four   -- for this text's walks alone
set_option linter.unusedVariables false
set_option linter.unusedSimpArgs false

abbrev Y : Bool := true
abbrev Z : Bool := false
/-! ### chamberlainlaw06_NetDoes: function 3 -/
mutual
def chamberlainlaw06_NetDoes.j0 : Nat → Int → Bool → Int → List (S29) → List (List Int) → Int → List Int → Option (Bool)
 | 0, _, _, _, _, _, _, _ => none
 | k + 1, x2, x33, x342000, x342001, x342002, x343000, x343001 => if x33 = true then ((chamberlainlaw06_awake.f k).bind fun t345 => (some t345)) else ((net_Right.f x342000 x342001 x342002).bind fun t346 => ((chamberlainref06_Right.f x342000 x342001 x342002).bind fun t347 => (if (t346 != t347) = true then (chamberlainlaw06_NetDoes.j1 k x2 true x342000 x342001 x342002 x343000 x343001) else ((chamberlainref06_Right.f x342000 x342001 x342002).bind fun t348 => (chamberlainlaw06_NetDoes.j1 k x2 (!t348) x342000 x342001 x342002 x343000 x343001)))))
def chamberlainlaw06_NetDoes.j1 : Nat → Int → Bool → Int → List (S29) → List (List Int) → Int → List Int → Option (Bool)
 | 0, _, _, _, _, _, _, _ => none
 | k + 1, x2, x44, x342000, x342001, x342002, x343000, x343001 => if x44 = true then ((net_Right.f x342000 x342001 x342002).bind fun t349 => ((chamberlainref06_Right.f x342000 x342001 x342002).bind fun t350 => (some (t349 == t350)))) else ((net_Send.f x342000 x342001 x342002 x343000 x343001).bind fun bt351 => ((chamberlainref06_Send.f x342000 x342001 x342002 x343000 x343001).bind fun bt360 => ((net_Take.f x342000 x342001 x342002 x2).bind fun bt369 => ((chamberlainref06_Take.f k x342000 x342001 x342002 x2).bind fun bt383 => ((net_Double.f x342000 x342001 x342002 x2).bind fun bt397 => ((chamberlainref06_Double.f x342000 x342001 x342002 x2).bind fun bt406 => ((chamberlainref06_Same.f k bt351.1 bt351.2.1 bt351.2.2.1 bt360.1 bt360.2.1 bt360.2.2.1).bind fun t415 => (if t415 = true then (if bt351.2.2.2 = bt360.2.2.2 then ((chamberlainref06_Same.f k bt369.1 bt369.2.1 bt369.2.2.1 bt383.1 bt383.2.1 bt383.2.2.1).bind fun t416 => (if t416 = true then ((chamberlainref06_One.f k bt369.2.2.2.1 bt369.2.2.2.2.1 bt383.2.2.2.1 bt383.2.2.2.2.1).bind fun t417 => (if t417 = true then (if bt369.2.2.2.2.2 = bt383.2.2.2.2.2 then ((chamberlainref06_Same.f k bt397.1 bt397.2.1 bt397.2.2.1 bt406.1 bt406.2.1 bt406.2.2.1).bind fun t418 => (if t418 = true then (if bt397.2.2.2 = bt406.2.2.2 then ((net_Free.f x342000 x342001 x342002).bind fun t419 => (some (t419 == (wrap64 (x342000 - (x342001.length : Int)))))) else (some false)) else (some false))) else (some false)) else (some false))) else (some false))) else (some false)) else (some false)))))))))
end
def chamberlainlaw06_NetDoes.f (k : Nat) (a0_0 : Int) (l0_1 : List (S29)) (l0_2 : List (List Int)) (a1_0 : Int) (l1_1 : List Int) (a2 : Int) : Option (Bool) := (chamberlainlaw06_awake.f k).bind fun t343 => (if t343 = true then ((chamberlainref06_Few.f k a0_0 l0_1 l0_2).bind fun t344 => (if t344 = true then (chamberlainlaw06_NetDoes.j0 k a2 (decide ((l1_1.length : Int) > 100)) a0_0 l0_1 l0_2 a1_0 l1_1) else (chamberlainlaw06_NetDoes.j0 k a2 true a0_0 l0_1 l0_2 a1_0 l1_1))) else (chamberlainlaw06_NetDoes.j0 k a2 true a0_0 l0_1 l0_2 a1_0 l1_1))
theorem chamberlainlaw06_NetDoes.mono_l : ∀ k, (∀ y0 y1 y2 y3 y4 y5 y6, LeO (chamberlainlaw06_NetDoes.j0 k y0 y1 y2 y3 y4 y5 y6) (chamberlainlaw06_NetDoes.j0 (k + 1) y0 y1 y2 y3 y4 y5 y6)) ∧ (∀ y0 y1 y2 y3 y4 y5 y6, LeO (chamberlainlaw06_NetDoes.j1 k y0 y1 y2 y3 y4 y5 y6) (chamberlainlaw06_NetDoes.j1 (k + 1) y0 y1 y2 y3 y4 y5 y6))
 | 0 => ⟨fun _ _ _ _ _ _ _ r h => by simp [chamberlainlaw06_NetDoes.j0] at h, fun _ _ _ _ _ _ _ r h => by simp [chamberlainlaw06_NetDoes.j1] at h⟩
 | k + 1 => by
  obtain ⟨ih0, ih1⟩ := chamberlainlaw06_NetDoes.mono_l k
  refine ⟨?_, ?_⟩
  ·
   intro y0 y1 y2 y3 y4 y5 y6
   unfold chamberlainlaw06_NetDoes.j0
   repeat' first
   | (with_reducible exact ih0 _ _ _ _ _ _ _)
   | (with_reducible exact ih1 _ _ _ _ _ _ _)
   | (with_reducible exact chamberlainlaw06_awake.mono _)
   | (with_reducible exact chamberlainref06_Few.mono _ _ _ _)
   | (with_reducible exact chamberlainref06_One.mono _ _ _ _ _)
   | (with_reducible exact chamberlainref06_Same.mono _ _ _ _ _ _ _)
   | (with_reducible exact chamberlainref06_Take.mono _ _ _ _ _)
   | (with_reducible exact LeO.refl _)
   | (with_reducible exact LeO.none _)
   | (with_reducible refine LeO.ite ?_ ?_)
   | (with_reducible refine LeO.bind ?_ (fun _ => ?_))
   | exact ih0 _ _ _ _ _ _ _
   | exact ih1 _ _ _ _ _ _ _
   | exact chamberlainlaw06_awake.mono _
   | exact chamberlainref06_Few.mono _ _ _ _
   | exact chamberlainref06_One.mono _ _ _ _ _
   | exact chamberlainref06_Same.mono _ _ _ _ _ _ _
   | exact chamberlainref06_Take.mono _ _ _ _ _
   | exact LeO.none _
   | refine LeO.ite ?_ ?_
   | refine LeO.bind ?_ (fun _ => ?_)
  ·
   intro y0 y1 y2 y3 y4 y5 y6
   unfold chamberlainlaw06_NetDoes.j1
   repeat' first
   | (with_reducible exact ih0 _ _ _ _ _ _ _)
   | (with_reducible exact ih1 _ _ _ _ _ _ _)
   | (with_reducible exact chamberlainlaw06_awake.mono _)
   | (with_reducible exact chamberlainref06_Few.mono _ _ _ _)
   | (with_reducible exact chamberlainref06_One.mono _ _ _ _ _)
   | (with_reducible exact chamberlainref06_Same.mono _ _ _ _ _ _ _)
   | (with_reducible exact chamberlainref06_Take.mono _ _ _ _ _)
   | (with_reducible exact LeO.refl _)
   | (with_reducible exact LeO.none _)
   | (with_reducible refine LeO.ite ?_ ?_)
   | (with_reducible refine LeO.bind ?_ (fun _ => ?_))
   | exact ih0 _ _ _ _ _ _ _
   | exact ih1 _ _ _ _ _ _ _
   | exact chamberlainlaw06_awake.mono _
   | exact chamberlainref06_Few.mono _ _ _ _
   | exact chamberlainref06_One.mono _ _ _ _ _
   | exact chamberlainref06_Same.mono _ _ _ _ _ _ _
   | exact chamberlainref06_Take.mono _ _ _ _ _
   | exact LeO.none _
   | refine LeO.ite ?_ ?_
   | refine LeO.bind ?_ (fun _ => ?_)
theorem chamberlainlaw06_NetDoes.mono : ∀ a0 a1 a2 a3 a4 a5 k, LeO (chamberlainlaw06_NetDoes.f k a0 a1 a2 a3 a4 a5) (chamberlainlaw06_NetDoes.f (k + 1) a0 a1 a2 a3 a4 a5) := by
 intro a0 a1 a2 a3 a4 a5 k
 obtain ⟨ih0, ih1⟩ := chamberlainlaw06_NetDoes.mono_l k
 unfold chamberlainlaw06_NetDoes.f
 repeat' first
   | (with_reducible exact ih0 _ _ _ _ _ _ _)
   | (with_reducible exact ih1 _ _ _ _ _ _ _)
   | (with_reducible exact chamberlainlaw06_awake.mono _)
   | (with_reducible exact chamberlainref06_Few.mono _ _ _ _)
   | (with_reducible exact chamberlainref06_One.mono _ _ _ _ _)
   | (with_reducible exact chamberlainref06_Same.mono _ _ _ _ _ _ _)
   | (with_reducible exact chamberlainref06_Take.mono _ _ _ _ _)
   | (with_reducible exact LeO.refl _)
   | (with_reducible exact LeO.none _)
   | (with_reducible refine LeO.ite ?_ ?_)
   | (with_reducible refine LeO.bind ?_ (fun _ => ?_))
   | exact ih0 _ _ _ _ _ _ _
   | exact ih1 _ _ _ _ _ _ _
   | exact chamberlainlaw06_awake.mono _
   | exact chamberlainref06_Few.mono _ _ _ _
   | exact chamberlainref06_One.mono _ _ _ _ _
   | exact chamberlainref06_Same.mono _ _ _ _ _ _ _
   | exact chamberlainref06_Take.mono _ _ _ _ _
   | exact LeO.none _
   | refine LeO.ite ?_ ?_
   | refine LeO.bind ?_ (fun _ => ?_)
def chamberlainlaw06_NetDoes.T3 : Bool × List (List Nat × List Nat) := (true, [([], []), ([0], [0]), ([], []), ([2, 1], [2]), ([1, 3], [1, 3]), ([4, 3], [4]), ([5], [5]), ([6, 5, 5], [5, 6]), ([7, 5], [5, 7]), ([5, 8], [5, 8])])
def chamberlainlaw06_NetDoes.B3 : List Nat := [0, 1, 0, 7, 15, 31, 63, 127, 255, 511]
theorem chamberlainlaw06_NetDoes.tab3 : rtab .any (opsOf Try.f3 3) = chamberlainlaw06_NetDoes.T3 := by kernel_rfl
theorem chamberlainlaw06_NetDoes.bits3 : waitsOk chamberlainlaw06_NetDoes.T3.2 chamberlainlaw06_NetDoes.B3 = true := by kernel_rfl
def chamberlainlaw06_NetDoes.T11 : Bool × List (List Nat × List Nat) := (true, [([], []), ([], []), ([0, 1], [0, 1]), ([2, 2], [2]), ([3], [3]), ([3], [3]), ([4, 5, 3], [3, 4, 5]), ([3, 6], [3, 6]), ([7, 3], [7]), ([8], [8]), ([8], [8]), ([9, 10, 8, 8], [8, 9, 10]), ([8, 11], [8, 11]), ([12, 11], [12]), ([13], [13]), ([13], [13]), ([14, 15, 13, 13], [13, 14, 15]), ([13, 16], [13, 16]), ([17, 16], [17]), ([18], [18]), ([18], [18]), ([19, 20, 18], [18, 19, 20]), ([18, 21], [18, 21]), ([22, 18], [22]), ([23], [23]), ([23], [23]), ([24, 25, 23, 23], [23, 24, 25]), ([23, 26], [23, 26]), ([27, 26], [27]), ([28], [28]), ([28], [28]), ([29, 30, 28], [28, 29, 30]), ([28, 31], [28, 31]), ([32, 28], [32]), ([33], [33]), ([34, 33, 33], [33, 34]), ([33], [33]), ([36, 33], [33, 36]), ([33], [33]), ([38, 33], [33, 38]), ([39, 33], [33, 39]), ([37, 40, 33], [33, 37, 40]), ([35, 41, 33], [33, 35, 41]), ([33, 42], [33, 42]), ([43, 35, 0, 1, 2, 3, 4, 5, 6, 7, 8, 9, 10, 11, 12, 13, 14, 15, 16, 17, 18, 19, 20, 21, 22, 23, 24, 25, 26, 27, 28, 29, 30, 31, 32, 33, 34, 35, 36, 37, 38, 39, 40, 41, 42, 43], [43])])
def chamberlainlaw06_NetDoes.B11 : List Nat := [0, 0, 3, 7, 15, 15, 63, 127, 255, 511, 511, 2047, 4095, 8191, 16383, 16383, 65535, 131071, 262143, 524287, 524287, 2097151, 4194303, 8388607, 16777215, 16777215, 67108863, 134217727, 268435455, 536870911, 536870911, 2147483647, 4294967295, 8589934591, 17179869183, 34359738367, 17179869183, 85899345919, 17179869183, 292057776127, 841813590015, 2147483647999, 4398046511103, 8796093022207, 17592186044415]
theorem chamberlainlaw06_NetDoes.tab11 : rtab .any (opsOf Try.f3 11) = chamberlainlaw06_NetDoes.T11 := by kernel_rfl
theorem chamberlainlaw06_NetDoes.bits11 : waitsOk chamberlainlaw06_NetDoes.T11.2 chamberlainlaw06_NetDoes.B11 = true := by kernel_rfl
set_option maxHeartbeats 8000000 in
set_option maxRecDepth 100000 in
theorem chamberlainlaw06_NetDoes.calls (k : Nat) (a0_0 : Int) (A0_1 : Option Addr) (c0_1 : Nat) (l0_1 : List (S29)) (A0_2 : Option Addr) (c0_2 : Nat) (l0_2 : List (List Int)) (a1_0 : Int) (A1_1 : Option Addr) (c1_1 : Nat) (l1_1 : List Int) (a2 : Int) (r : Bool) (w : World) (hr0_1 : Kd.C k29 w A0_1 l0_1.length l0_1) (hc0_1 : l0_1.length ≤ c0_1) (hr0_2 : Kd.C (Kd.slice 26 (Kd.int .u32)) w A0_2 l0_2.length l0_2) (hc0_2 : l0_2.length ≤ c0_2) (hr1_1 : Kd.C (Kd.int .u32) w A1_1 l1_1.length l1_1) (hc1_1 : l1_1.length ≤ c1_1) (h : chamberlainlaw06_NetDoes.f k a0_0 l0_1 l0_2 a1_0 l1_1 a2 = some r) (hT0 : r = true) :
  Calls Try.prog 3 #[.agg #[.int .i64 a0_0, .slice A0_1 l0_1.length c0_1, .slice A0_2 l0_2.length c0_2], .agg #[.int .u32 a1_0, .slice A1_1 l1_1.length c1_1], .int .i64 a2] w fun e w' => e = .returned (.bool r) ∧ Below w.heap.size w w' := by
 have hT := Aside0.mk hT0
 clear hT0
 have hu25 := Try.underlying25
 have hu29 := Try.underlying29
 have HR0_1 := Aside0.mk hr0_1
 have HC0_1 := Aside0.mk hc0_1
 clear hr0_1 hc0_1
 have HR0_2 := Aside0.mk hr0_2
 have HC0_2 := Aside0.mk hc0_2
 clear hr0_2 hc0_2
 have HR1_1 := Aside0.mk hr1_1
 have HC1_1 := Aside0.mk hc1_1
 clear hr1_1 hc1_1
 have HB := Aside0.mk (Below.refl w.heap.size w)
 have H : ((chamberlainlaw06_awake.f k).bind fun t343 => (if t343 = true then ((chamberlainref06_Few.f k a0_0 l0_1 l0_2).bind fun t344 => (if t344 = true then (chamberlainlaw06_NetDoes.j0 k a2 (decide ((l1_1.length : Int) > 100)) a0_0 l0_1 l0_2 a1_0 l1_1) else (chamberlainlaw06_NetDoes.j0 k a2 true a0_0 l0_1 l0_2 a1_0 l1_1))) else (chamberlainlaw06_NetDoes.j0 k a2 true a0_0 l0_1 l0_2 a1_0 l1_1))) = some r := h
 clear h
 have HC4 := Aside0.mk H
 clear H
 go_enter Try.func3, Try.ntmps3
 go_upto_region 1 with (first | ((with_reducible refine gate_dst (N := 3) rfl ?_); (try (refine gate_guard (by rfl) ?_; dsimp only)); refine box_event ?hg (N := 3) ?hd (cs := #[.int .i64 a0_0, .slice A0_1 l0_1.length c0_1, .slice A0_2 l0_2.length c0_2]) (t := 25) ?hr ?_; (case hd => rfl); (case hg => rfl); (case hr => first | (go_simp; done) | (go_simp; rfl)); intro gb341 hg w5 hbox hb; have n0_ := Aside0.mk (bs_ hb); have n1_ := Aside0.mk (hbox); have n2_ := Aside0.mk ((ge_ hg : w.heap.size ≤ gb341)); have n3_ := Aside0.mk ((ge_ hg : w.heap.size ≤ gb341)); clear HB; have HB := n0_; have BK341 := n1_; have GW341 := n2_; have GE341 := n3_; clear n0_ n1_ n2_ n3_; clear hb hbox hg) | ((with_reducible refine gate_dst (N := 4) rfl ?_); (try (refine gate_guard (by rfl) ?_; dsimp only)); refine box_event ?hg (N := 4) ?hd (cs := #[.int .u32 a1_0, .slice A1_1 l1_1.length c1_1]) (t := 29) ?hr ?_; (case hd => rfl); (case hg => rfl); (case hr => first | (go_simp; done) | (go_simp; rfl)); intro gb342 hg w6 hbox hb; have n0_ := Aside0.mk (bb_ BK341.out hb); have n1_ := Aside0.mk (bs_ hb); have n2_ := Aside0.mk (hbox); have n3_ := Aside0.mk ((ge_ hg : w.heap.size ≤ gb342)); have n4_ := Aside0.mk ((ge_ hg : w.heap.size ≤ gb342)); have n5_ := Aside0.mk ((by rw [hg]; exact Nat.ne_of_lt (blk_lt (g := gb341) (o := .cells #[.int .i64 a0_0, .slice A0_1 l0_1.length c0_1, .slice A0_2 l0_2.length c0_2] 25 (0, 0)) (by (with_reducible repeat (first | refine blk_drewN ?_ _ | refine blk_drew ?_ | refine blk_alloc ?_ _)); exact BK341.out)) : gb341 ≠ gb342)); have n6_ := Aside0.mk ((by rw [hg]; exact Nat.ne_of_gt (blk_lt (g := gb341) (o := .cells #[.int .i64 a0_0, .slice A0_1 l0_1.length c0_1, .slice A0_2 l0_2.length c0_2] 25 (0, 0)) (by (with_reducible repeat (first | refine blk_drewN ?_ _ | refine blk_drew ?_ | refine blk_alloc ?_ _)); exact BK341.out)) : gb342 ≠ gb341)); clear BK341 HB; have BK341 := n0_; have HB := n1_; have BK342 := n2_; have GW342 := n3_; have GE342 := n4_; have NB341_342 := n5_; have NB342_341 := n6_; clear n0_ n1_ n2_ n3_ n4_ n5_ n6_; clear hb hbox hg))
 (try simp only [Act.put, List.setIfInBounds_toArray, List.set_cons_zero, List.set_cons_succ])
 go_cut [33] (fun v33 wc => ∃ (kq : Nat) (x33_3 : Bool), v33 = .bool x33_3 ∧ Aside0 (chamberlainlaw06_NetDoes.j0 kq a2 x33_3 a0_0 l0_1 l0_2 a1_0 l1_1 = some r) ∧ Aside0 (kq ≤ k) ∧ Aside0 (wc.heap[gb341]? = some (.cells #[.int .i64 a0_0, (.slice A0_1 l0_1.length c0_1), (.slice A0_2 l0_2.length c0_2)] 25 (0, 0))) ∧ Aside0 (wc.heap[gb342]? = some (.cells #[.int .u32 a1_0, (.slice A1_1 l1_1.length c1_1)] 29 (0, 0))) ∧ Aside0 (Below w.heap.size w wc))
 case first =>
  have H := HC4.out
  clear HC4
  replace H := Option.bind_eq_some_iff.mp H
  obtain ⟨t343, A70, H⟩ := H
  replace H : (if t343 = true then ((chamberlainref06_Few.f k a0_0 l0_1 l0_2).bind fun t344 => (if t344 = true then (chamberlainlaw06_NetDoes.j0 k a2 (decide ((l1_1.length : Int) > 100)) a0_0 l0_1 l0_2 a1_0 l1_1) else (chamberlainlaw06_NetDoes.j0 k a2 true a0_0 l0_1 l0_2 a1_0 l1_1))) else (chamberlainlaw06_NetDoes.j0 k a2 true a0_0 l0_1 l0_2 a1_0 l1_1)) = some r := H
  have A7 := Aside0.mk A70
  clear A70
  by_cases c8 : t343 = true
  ·
   subst c8
   have H1 : ((chamberlainref06_Few.f k a0_0 l0_1 l0_2).bind fun t344 => (if t344 = true then (chamberlainlaw06_NetDoes.j0 k a2 (decide ((l1_1.length : Int) > 100)) a0_0 l0_1 l0_2 a1_0 l1_1) else (chamberlainlaw06_NetDoes.j0 k a2 true a0_0 l0_1 l0_2 a1_0 l1_1))) = some r := by rw [if_pos rfl] at H; exact H
   clear H
   have H := H1
   clear H1
   replace H := Option.bind_eq_some_iff.mp H
   obtain ⟨t344, A90, H⟩ := H
   replace H : (if t344 = true then (chamberlainlaw06_NetDoes.j0 k a2 (decide ((l1_1.length : Int) > 100)) a0_0 l0_1 l0_2 a1_0 l1_1) else (chamberlainlaw06_NetDoes.j0 k a2 true a0_0 l0_1 l0_2 a1_0 l1_1)) = some r := H
   have A9 := Aside0.mk A90
   clear A90
   by_cases c10 : t344 = true
   ·
    subst c10
    have H1 : (chamberlainlaw06_NetDoes.j0 k a2 (decide ((l1_1.length : Int) > 100)) a0_0 l0_1 l0_2 a1_0 l1_1) = some r := by rw [if_pos rfl] at H; exact H
    clear H
    have H := H1
    clear H1
    have H' := Aside0.mk H
    clear H
    go_wp2_with (first | ((with_reducible refine gate_callee (f := 8) rfl ?_); refine goesL_ (some 21) rfl rfl Try.func8 (by kernel_rfl) rfl #[] rfl (by (try simp only [List.map_toArray, List.map_cons, List.map_nil]); first | done | rfl | (simp only [List.length_drop, List.length_take]; rfl)) ?_; (with_reducible refine (chamberlainlaw06_awake.calls k  true _ A7.out).mono ?_); rintro e w11 ⟨rfl, hb⟩; refine ⟨_, rfl, ?_⟩; have n0_ := Aside0.mk (bb_ BK341.out hb); have n1_ := Aside0.mk (bb_ BK342.out hb); have n2_ := Aside0.mk (bs_ hb); clear BK341 BK342 HB; have BK341 := n0_; have BK342 := n1_; have HB := n2_; clear n0_ n1_ n2_; (try clear hb); (try clear hb2); (try clear hk); (try clear hi); have hnb12 := NB341_342.out; have hnc12 := NB342_341.out; have ⟨hcz13_0, hcz13_1, hcz13_2⟩ := cz3_ BK341.out; have ⟨hfz13_0, hfz13_1, hfz13_2⟩ := fz3_ BK341.out) | (go_at_call 9; (with_reducible refine (chamberlainref06_Few.calls k a0_0 _ _ l0_1 _ _ l0_2 true _ ?side1 ?side2 ?side3 ?side4 A9.out).mono ?_); (case side1 => repeat (first | exact (Kd.C_below HR0_1.out HB.out) | (with_reducible refine Kd.C_alloc ?_ _) | (with_reducible refine Kd.C_drewN ?_ _) | (with_reducible refine Kd.C_drew ?_))); (case side2 => exact HC0_1.out); (case side3 => repeat (first | exact (Kd.C_below HR0_2.out HB.out) | (with_reducible refine Kd.C_alloc ?_ _) | (with_reducible refine Kd.C_drewN ?_ _) | (with_reducible refine Kd.C_drew ?_))); (case side4 => exact HC0_2.out); rintro e w14 ⟨rfl, hb⟩; have n0_ := Aside0.mk (bb_ BK341.out hb); have n1_ := Aside0.mk (bb_ BK342.out hb); have n2_ := Aside0.mk (bs_ hb); clear BK341 BK342 HB; have BK341 := n0_; have BK342 := n1_; have HB := n2_; clear n0_ n1_ n2_; (try clear hb); (try clear hb2); (try clear hk); (try clear hi); have ⟨hcz15_0, hcz15_1⟩ := cz2_ BK342.out; have ⟨hfz15_0, hfz15_1⟩ := fz2_ BK342.out))
    go_meet
    case rel => exact ⟨_, (decide ((l1_1.length : Int) > 100)), (by first | rfl | (simp; done) | (simp [*]; done)), H', ⟨by first | omega | exact Nat.le_refl _⟩, ⟨by (with_reducible repeat (first | refine blk_drewN ?_ _ | refine blk_drew ?_ | refine blk_alloc ?_ _)); exact BK341.out⟩, ⟨by (with_reducible repeat (first | refine blk_drewN ?_ _ | refine blk_drew ?_ | refine blk_alloc ?_ _)); exact BK342.out⟩, ⟨by repeat (first | (with_reducible first | exact HB.out | apply below_alloc | apply pw_below_drewN | apply below_drew1 | refine below_set ?_ GE341.out | refine below_set ?_ GE342.out) | exact HB.out)⟩⟩
   ·
    replace c10 := Bool.eq_false_iff.mpr c10
    subst c10
    have H1 : (chamberlainlaw06_NetDoes.j0 k a2 true a0_0 l0_1 l0_2 a1_0 l1_1) = some r := by rw [if_neg (show ¬ (false = true) by decide)] at H; exact H
    clear H
    have H := H1
    clear H1
    have H' := Aside0.mk H
    clear H
    go_wp2_with (first | ((with_reducible refine gate_callee (f := 8) rfl ?_); refine goesL_ (some 21) rfl rfl Try.func8 (by kernel_rfl) rfl #[] rfl (by (try simp only [List.map_toArray, List.map_cons, List.map_nil]); first | done | rfl | (simp only [List.length_drop, List.length_take]; rfl)) ?_; (with_reducible refine (chamberlainlaw06_awake.calls k  true _ A7.out).mono ?_); rintro e w16 ⟨rfl, hb⟩; refine ⟨_, rfl, ?_⟩; have n0_ := Aside0.mk (bb_ BK341.out hb); have n1_ := Aside0.mk (bb_ BK342.out hb); have n2_ := Aside0.mk (bs_ hb); clear BK341 BK342 HB; have BK341 := n0_; have BK342 := n1_; have HB := n2_; clear n0_ n1_ n2_; (try clear hb); (try clear hb2); (try clear hk); (try clear hi); have hnb17 := NB341_342.out; have hnc17 := NB342_341.out; have ⟨hcz18_0, hcz18_1, hcz18_2⟩ := cz3_ BK341.out; have ⟨hfz18_0, hfz18_1, hfz18_2⟩ := fz3_ BK341.out) | (go_at_call 9; (with_reducible refine (chamberlainref06_Few.calls k a0_0 _ _ l0_1 _ _ l0_2 false _ ?side1 ?side2 ?side3 ?side4 A9.out).mono ?_); (case side1 => repeat (first | exact (Kd.C_below HR0_1.out HB.out) | (with_reducible refine Kd.C_alloc ?_ _) | (with_reducible refine Kd.C_drewN ?_ _) | (with_reducible refine Kd.C_drew ?_))); (case side2 => exact HC0_1.out); (case side3 => repeat (first | exact (Kd.C_below HR0_2.out HB.out) | (with_reducible refine Kd.C_alloc ?_ _) | (with_reducible refine Kd.C_drewN ?_ _) | (with_reducible refine Kd.C_drew ?_))); (case side4 => exact HC0_2.out); rintro e w19 ⟨rfl, hb⟩; have n0_ := Aside0.mk (bb_ BK341.out hb); have n1_ := Aside0.mk (bb_ BK342.out hb); have n2_ := Aside0.mk (bs_ hb); clear BK341 BK342 HB; have BK341 := n0_; have BK342 := n1_; have HB := n2_; clear n0_ n1_ n2_; (try clear hb); (try clear hb2); (try clear hk); (try clear hi)))
    go_meet
    case rel => exact ⟨_, (true), (by first | rfl | (simp; done) | (simp [*]; done)), H', ⟨by first | omega | exact Nat.le_refl _⟩, ⟨by (with_reducible repeat (first | refine blk_drewN ?_ _ | refine blk_drew ?_ | refine blk_alloc ?_ _)); exact BK341.out⟩, ⟨by (with_reducible repeat (first | refine blk_drewN ?_ _ | refine blk_drew ?_ | refine blk_alloc ?_ _)); exact BK342.out⟩, ⟨by repeat (first | (with_reducible first | exact HB.out | apply below_alloc | apply pw_below_drewN | apply below_drew1 | refine below_set ?_ GE341.out | refine below_set ?_ GE342.out) | exact HB.out)⟩⟩
  ·
   replace c8 := Bool.eq_false_iff.mpr c8
   subst c8
   have H1 : (chamberlainlaw06_NetDoes.j0 k a2 true a0_0 l0_1 l0_2 a1_0 l1_1) = some r := by rw [if_neg (show ¬ (false = true) by decide)] at H; exact H
   clear H
   have H := H1
   clear H1
   have H' := Aside0.mk H
   clear H
   go_wp2_with (first | ((with_reducible refine gate_callee (f := 8) rfl ?_); refine goesL_ (some 21) rfl rfl Try.func8 (by kernel_rfl) rfl #[] rfl (by (try simp only [List.map_toArray, List.map_cons, List.map_nil]); first | done | rfl | (simp only [List.length_drop, List.length_take]; rfl)) ?_; (with_reducible refine (chamberlainlaw06_awake.calls k  false _ A7.out).mono ?_); rintro e w20 ⟨rfl, hb⟩; refine ⟨_, rfl, ?_⟩; have n0_ := Aside0.mk (bb_ BK341.out hb); have n1_ := Aside0.mk (bb_ BK342.out hb); have n2_ := Aside0.mk (bs_ hb); clear BK341 BK342 HB; have BK341 := n0_; have BK342 := n1_; have HB := n2_; clear n0_ n1_ n2_; (try clear hb); (try clear hb2); (try clear hk); (try clear hi)))
   go_meet
   case rel => exact ⟨_, (true), (by first | rfl | (simp; done) | (simp [*]; done)), H', ⟨by first | omega | exact Nat.le_refl _⟩, ⟨by (with_reducible repeat (first | refine blk_drewN ?_ _ | refine blk_drew ?_ | refine blk_alloc ?_ _)); exact BK341.out⟩, ⟨by (with_reducible repeat (first | refine blk_drewN ?_ _ | refine blk_drew ?_ | refine blk_alloc ?_ _)); exact BK342.out⟩, ⟨by repeat (first | (with_reducible first | exact HB.out | apply below_alloc | apply pw_below_drewN | apply below_drew1 | refine below_set ?_ GE341.out | refine below_set ?_ GE342.out) | exact HB.out)⟩⟩
 case rest =>
  clear HC4
  try clear c1
  try clear p2
  try clear c3
  try clear c8
  try clear c10
  try clear c12
  try clear c17
  try clear hcz13_0
  try clear hcz13_1
  try clear hcz13_2
  try clear hcz15_0
  try clear hcz15_1
  try clear hcz18_0
  try clear hcz18_1
  try clear hcz18_2
  try clear hfz13_0
  try clear hfz13_1
  try clear hfz13_2
  try clear hfz15_0
  try clear hfz15_1
  try clear hfz18_0
  try clear hfz18_1
  try clear hfz18_2
  obtain ⟨kq, x33_3, rfl, HA, HJ3, BK341, BK342, HB⟩ := hcut
  cases kq with
  | zero => exact absurd HA.out (by simp [chamberlainlaw06_NetDoes.j0])
  | succ kj3 =>
   have H := HA.out
   clear HA
   simp only [chamberlainlaw06_NetDoes.j0] at H
   by_cases c21 : x33_3 = true
   ·
    subst c21
    have H1 : ((chamberlainlaw06_awake.f kj3).bind fun t345 => (some t345)) = some r := by rw [if_pos rfl] at H; exact H
    clear H
    have H := H1
    clear H1
    replace H := Option.bind_eq_some_iff.mp H
    obtain ⟨t345, A220, H⟩ := H
    replace H : (some t345) = some r := H
    have A22 := Aside0.mk A220
    clear A220
    obtain rfl := Option.some.inj H
    go_wp2_with (first | ((with_reducible refine gate_callee (f := 8) rfl ?_); refine goesL_ (some 34) rfl rfl Try.func8 (by kernel_rfl) rfl #[] rfl (by (try simp only [List.map_toArray, List.map_cons, List.map_nil]); first | done | rfl | (simp only [List.length_drop, List.length_take]; rfl)) ?_; (with_reducible refine (chamberlainlaw06_awake.calls kj3  t345 _ A22.out).mono ?_); rintro e w23 ⟨rfl, hb⟩; refine ⟨_, rfl, ?_⟩; have n2_ := Aside0.mk (bs_ hb); clear BK341 BK342 HB; have HB := n2_; clear n2_; (try clear hb); (try clear hb2); (try clear hk); (try clear hi)))
    go_ret
    exact ⟨by first | rfl | (simp [errW_none, errW_some] <;> rfl) | (simp [*, errW_none, errW_some] <;> rfl), by repeat (first | (with_reducible first | exact HB.out | apply below_alloc | apply pw_below_drewN | apply below_drew1 | refine below_set ?_ GE341.out | refine below_set ?_ GE342.out) | exact HB.out)⟩
   ·
    replace c21 := Bool.eq_false_iff.mpr c21
    subst c21
    have H1 : ((net_Right.f a0_0 l0_1 l0_2).bind fun t346 => ((chamberlainref06_Right.f a0_0 l0_1 l0_2).bind fun t347 => (if (t346 != t347) = true then (chamberlainlaw06_NetDoes.j1 kj3 a2 true a0_0 l0_1 l0_2 a1_0 l1_1) else ((chamberlainref06_Right.f a0_0 l0_1 l0_2).bind fun t348 => (chamberlainlaw06_NetDoes.j1 kj3 a2 (!t348) a0_0 l0_1 l0_2 a1_0 l1_1))))) = some r := by rw [if_neg (show ¬ (false = true) by decide)] at H; exact H
    clear H
    have H := H1
    clear H1
    have HC24 := Aside0.mk H
    clear H
    go_upto_region 3 with (fail)
    go_cut [44] (fun v44 wc => ∃ (kq : Nat) (x44_23 : Bool), v44 = .bool x44_23 ∧ Aside0 (chamberlainlaw06_NetDoes.j1 kq a2 x44_23 a0_0 l0_1 l0_2 a1_0 l1_1 = some r) ∧ Aside0 (kq ≤ kj3) ∧ Aside0 (wc.heap[gb341]? = some (.cells #[.int .i64 a0_0, (.slice A0_1 l0_1.length c0_1), (.slice A0_2 l0_2.length c0_2)] 25 (0, 0))) ∧ Aside0 (wc.heap[gb342]? = some (.cells #[.int .u32 a1_0, (.slice A1_1 l1_1.length c1_1)] 29 (0, 0))) ∧ Aside0 (Below w.heap.size w wc))
    case first =>
     have H := HC24.out
     clear HC24
     replace H := Option.bind_eq_some_iff.mp H
     obtain ⟨t346, A250, H⟩ := H
     replace H : ((chamberlainref06_Right.f a0_0 l0_1 l0_2).bind fun t347 => (if (t346 != t347) = true then (chamberlainlaw06_NetDoes.j1 kj3 a2 true a0_0 l0_1 l0_2 a1_0 l1_1) else ((chamberlainref06_Right.f a0_0 l0_1 l0_2).bind fun t348 => (chamberlainlaw06_NetDoes.j1 kj3 a2 (!t348) a0_0 l0_1 l0_2 a1_0 l1_1)))) = some r := H
     have A25 := Aside0.mk A250
     clear A250
     replace H := Option.bind_eq_some_iff.mp H
     obtain ⟨t347, A260, H⟩ := H
     replace H : (if (t346 != t347) = true then (chamberlainlaw06_NetDoes.j1 kj3 a2 true a0_0 l0_1 l0_2 a1_0 l1_1) else ((chamberlainref06_Right.f a0_0 l0_1 l0_2).bind fun t348 => (chamberlainlaw06_NetDoes.j1 kj3 a2 (!t348) a0_0 l0_1 l0_2 a1_0 l1_1))) = some r := H
     have A26 := Aside0.mk A260
     clear A260
     by_cases c27 : (t346 != t347) = true
     ·
      rw [if_pos c27] at H
      have c27b0 : (t346 != t347) = true := c27
      (try (have c27b1 : decide (t346 = t347) = false := by simpa using c27))
      (try (have c27b2 : (t346 == t347) = false := by simpa using c27))
      (try (have c27b3 : ¬ (t346 = t347) := by simpa using c27))
      clear c27
      (first | rw [c27b0] | (simp only [i64_w, i32_w]; rw [c27b0]) | skip)
      have H' := Aside0.mk H
      clear H
      try go_wp2
      have n0_ := Aside0.mk (blk_drew BK341.out)
      have n1_ := Aside0.mk (blk_drew BK342.out)
      have n2_ := Aside0.mk (below_drew1 HB.out)
      clear BK341 BK342 HB
      have BK341 := n0_
      have BK342 := n1_
      have HB := n2_
      clear n0_ n1_ n2_
      refine start_ (n := 10) (S := fun w' => w'.cell? ⟨gb341, 0, none⟩ = some (.int .i64 a0_0) ∧ w'.cell? ⟨gb341, 1, none⟩ = some (.slice A0_1 l0_1.length c0_1) ∧ w'.cell? ⟨gb341, 2, none⟩ = some (.slice A0_2 l0_2.length c0_2)) (ds := []) #[Z,Z,Z,Z,Z,Z,Z,Z,Z,Z] (by kernel_rfl) rfl rfl ⟨(blk_cell BK341.out 0).trans rfl, (blk_cell BK341.out 1).trans rfl, (blk_cell BK341.out 2).trans rfl⟩ (fun hHeld => ?_); refine with_tabW chamberlainlaw06_NetDoes.tab3 chamberlainlaw06_NetDoes.bits3 (fun HT_ HW_ => ?_)
      generalize wc.drew = w28 at BK341 BK342 HB hHeld ⊢
      refine take_ (i := 0) (N := some 35) (v := ?_) (a' := ?_) #[Y,Z,Z,Z,Z,Z,Z,Z,Z,Z] rfl rfl (take_ofW HT_.out HW_.out (by kernel_rfl)) (fun _ _ _ h => h) (Or.inl ⟨by rfl, ?_⟩) hHeld ?_ ?_
      rotate_left
      ·
       rintro w' ⟨s0, s1, s2⟩
       go_simp
       with_reducible rfl
      rotate_left
      ·
       simp only [Act.put, List.setIfInBounds_toArray, List.set_cons_zero, List.set_cons_succ, i64_w, i32_w]
       rfl
      refine take_ (i := 2) (N := some 37) (v := ?_) (a' := ?_) #[Y,Z,Y,Z,Z,Z,Z,Z,Z,Z] rfl rfl (take_ofW HT_.out HW_.out (by kernel_rfl)) (fun _ _ _ h => h) (Or.inl ⟨by rfl, ?_⟩) hHeld ?_ ?_
      rotate_left
      ·
       rintro w' ⟨s0, s1, s2⟩
       go_simp
       with_reducible rfl
      rotate_left
      ·
       simp only [Act.put, List.setIfInBounds_toArray, List.set_cons_zero, List.set_cons_succ, i64_w, i32_w]
       rfl
      refine one_ (i := 1) (N := some 36) #[Y,Y,Y,Z,Z,Z,Z,Z,Z,Z] rfl rfl (one_of HT_.out (by kernel_rfl)) (by decide) (fun K hK => ?_)
      refine goes_ Try.func10 (by kernel_rfl) rfl #[.agg #[.int .i64 a0_0, .slice A0_1 l0_1.length c0_1, .slice A0_2 l0_2.length c0_2]] (by rfl) rfl rfl (by (try simp only [List.map_toArray, List.map_cons, List.map_nil]); first | done | rfl | (simp only [List.length_drop, List.length_take]; rfl)) ?_
      with_reducible refine (net_Right.calls a0_0 _ _ l0_1 _ _ l0_2 t346 _ ?side1 ?side2 ?side3 ?side4 A25.out).mono ?_
      (case side1 => repeat (first | exact (Kd.C_below HR0_1.out HB.out) | (with_reducible refine Kd.C_alloc ?_ _) | (with_reducible refine Kd.C_drewN ?_ _) | (with_reducible refine Kd.C_drew ?_)))
      (case side2 => exact HC0_1.out)
      (case side3 => repeat (first | exact (Kd.C_below HR0_2.out HB.out) | (with_reducible refine Kd.C_alloc ?_ _) | (with_reducible refine Kd.C_drewN ?_ _) | (with_reducible refine Kd.C_drew ?_)))
      (case side4 => exact HC0_2.out)
      rintro e w29 ⟨rfl, hb⟩
      refine ⟨_, rfl, ?_⟩
      have n0_ := Aside0.mk (bb_ BK341.out hb)
      have n1_ := Aside0.mk (bb_ BK342.out hb)
      have n2_ := Aside0.mk (bs_ hb)
      clear BK341 BK342 HB
      have BK341 := n0_
      have BK342 := n1_
      have HB := n2_
      clear n0_ n1_ n2_
      (try clear hb)
      (try clear hb2)
      (try clear hk)
      (try clear hi)
      refine hK.out _ _ ⟨(blk_cell BK341.out 0).trans rfl, (blk_cell BK341.out 1).trans rfl, (blk_cell BK341.out 2).trans rfl⟩ (fun hHeld => ?_)
      clear hK K
      refine norm_ (a' := ?_) ?_ ?_
      rotate_left
      ·
       show Act.put _ (some 36) _ = _
       simp only [Act.put, List.setIfInBounds_toArray, List.set_cons_zero, List.set_cons_succ, i64_w, i32_w]
       rfl
      refine one_ (i := 3) (N := some 38) #[Y,Y,Y,Y,Z,Z,Z,Z,Z,Z] rfl rfl (one_of HT_.out (by kernel_rfl)) (by decide) (fun K hK => ?_)
      refine goes_ Try.func11 (by kernel_rfl) rfl #[.agg #[.int .i64 a0_0, .slice A0_1 l0_1.length c0_1, .slice A0_2 l0_2.length c0_2]] (by rfl) rfl rfl (by (try simp only [List.map_toArray, List.map_cons, List.map_nil]); first | done | rfl | (simp only [List.length_drop, List.length_take]; rfl)) ?_
      with_reducible refine (chamberlainref06_Right.calls a0_0 _ _ l0_1 _ _ l0_2 t347 _ ?side1 ?side2 ?side3 ?side4 A26.out).mono ?_
      (case side1 => repeat (first | exact (Kd.C_below HR0_1.out HB.out) | (with_reducible refine Kd.C_alloc ?_ _) | (with_reducible refine Kd.C_drewN ?_ _) | (with_reducible refine Kd.C_drew ?_)))
      (case side2 => exact HC0_1.out)
      (case side3 => repeat (first | exact (Kd.C_below HR0_2.out HB.out) | (with_reducible refine Kd.C_alloc ?_ _) | (with_reducible refine Kd.C_drewN ?_ _) | (with_reducible refine Kd.C_drew ?_)))
      (case side4 => exact HC0_2.out)
      rintro e w30 ⟨rfl, hb⟩
      refine ⟨_, rfl, ?_⟩
      have n0_ := Aside0.mk (bb_ BK341.out hb)
      have n1_ := Aside0.mk (bb_ BK342.out hb)
      have n2_ := Aside0.mk (bs_ hb)
      clear BK341 BK342 HB
      have BK341 := n0_
      have BK342 := n1_
      have HB := n2_
      clear n0_ n1_ n2_
      (try clear hb)
      (try clear hb2)
      (try clear hk)
      (try clear hi)
      refine hK.out _ _ ⟨(blk_cell BK341.out 0).trans rfl, (blk_cell BK341.out 1).trans rfl, (blk_cell BK341.out 2).trans rfl⟩ (fun hHeld => ?_)
      clear hK K
      refine norm_ (a' := ?_) ?_ ?_
      rotate_left
      ·
       show Act.put _ (some 38) _ = _
       simp only [Act.put, List.setIfInBounds_toArray, List.set_cons_zero, List.set_cons_succ, i64_w, i32_w]
       rfl
      refine pure_ (i := 4) (N := some 39) (v := ?_) (a' := ?_) #[Y,Y,Y,Y,Y,Z,Z,Z,Z,Z] rfl rfl (any_of HT_.out (by kernel_rfl)) (fun _ _ _ h => h) (Or.inl ⟨by rfl, ?_⟩) ?_ ?_
      rotate_left
      ·
       intro w'
       go_simp
       with_reducible rfl
      rotate_left
      ·
       simp only [Act.put, List.setIfInBounds_toArray, List.set_cons_zero, List.set_cons_succ, i64_w, i32_w]
       rfl
      refine pure_ (i := 5) (N := some 40) (v := ?_) (a' := ?_) #[Y,Y,Y,Y,Y,Y,Z,Z,Z,Z] rfl rfl (any_of HT_.out (by kernel_rfl)) (fun _ _ _ h => h) (Or.inl ⟨by rfl, ?_⟩) ?_ ?_
      rotate_left
      ·
       intro w'
       go_simp
       with_reducible rfl
      rotate_left
      ·
       simp only [Act.put, List.setIfInBounds_toArray, List.set_cons_zero, List.set_cons_succ, i64_w, i32_w]
       rfl
      refine pure_ (i := 6) (N := some 41) (v := undef) (a' := ?_) #[Y,Y,Y,Y,Y,Y,Y,Z,Z,Z] rfl rfl (any_of HT_.out (by kernel_rfl)) (fun _ _ _ h => h) (Or.inr ⟨by rfl, rfl⟩) ?_ ?_
      rotate_left
      ·
       simp only [Act.put, List.setIfInBounds_toArray, List.set_cons_zero, List.set_cons_succ, i64_w, i32_w]
       rfl
      refine pure_ (i := 7) (N := some 42) (v := undef) (a' := ?_) #[Y,Y,Y,Y,Y,Y,Y,Y,Z,Z] rfl rfl (any_of HT_.out (by kernel_rfl)) (fun _ _ _ h => h) (Or.inr ⟨by rfl, rfl⟩) ?_ ?_
      rotate_left
      ·
       simp only [Act.put, List.setIfInBounds_toArray, List.set_cons_zero, List.set_cons_succ, i64_w, i32_w]
       rfl
      refine pure_ (i := 8) (N := some 43) (v := undef) (a' := ?_) #[Y,Y,Y,Y,Y,Y,Y,Y,Y,Z] rfl rfl (any_of HT_.out (by kernel_rfl)) (fun _ _ _ h => h) (Or.inr ⟨by rfl, rfl⟩) ?_ ?_
      rotate_left
      ·
       simp only [Act.put, List.setIfInBounds_toArray, List.set_cons_zero, List.set_cons_succ, i64_w, i32_w]
       rfl
      refine pure_ (i := 9) (N := some 44) (v := ?_) (a' := ?_) #[Y,Y,Y,Y,Y,Y,Y,Y,Y,Y] rfl rfl (any_of HT_.out (by kernel_rfl)) (fun _ _ _ h => h) (Or.inl ⟨by rfl, ?_⟩) ?_ ?_
      rotate_left
      ·
       intro w'
       go_simp
       with_reducible rfl
      rotate_left
      ·
       simp only [Act.put, List.setIfInBounds_toArray, List.set_cons_zero, List.set_cons_succ, i64_w, i32_w]
       rfl
      refine done_ (done_of HT_.out (by kernel_rfl)) ?_
      try go_wp2
      go_meet
      case rel => exact ⟨_, (true), (by first | rfl | (simp; done) | (simp [*]; done)), H', ⟨by have := HJ3.out; first | omega | exact Nat.le_refl _⟩, ⟨by (with_reducible repeat (first | refine blk_drewN ?_ _ | refine blk_drew ?_ | refine blk_alloc ?_ _)); exact BK341.out⟩, ⟨by (with_reducible repeat (first | refine blk_drewN ?_ _ | refine blk_drew ?_ | refine blk_alloc ?_ _)); exact BK342.out⟩, ⟨by repeat (first | (with_reducible first | exact HB.out | apply below_alloc | apply pw_below_drewN | apply below_drew1 | refine below_set ?_ GE341.out | refine below_set ?_ GE342.out) | exact HB.out)⟩⟩
     ·
      rw [if_neg c27] at H
      have c27b0 : (t346 != t347) = false := by simpa using c27
      (try (have c27b1 : decide (t346 = t347) = true := by simpa using c27))
      (try (have c27b2 : (t346 == t347) = true := by simpa using c27))
      clear c27
      (first | rw [c27b0] | (simp only [i64_w, i32_w]; rw [c27b0]) | skip)
      replace H := Option.bind_eq_some_iff.mp H
      obtain ⟨t348, A310, H⟩ := H
      replace H : (chamberlainlaw06_NetDoes.j1 kj3 a2 (!t348) a0_0 l0_1 l0_2 a1_0 l1_1) = some r := H
      have A31 := Aside0.mk A310
      clear A310
      have H' := Aside0.mk H
      clear H
      try go_wp2
      have n0_ := Aside0.mk (blk_drew BK341.out)
      have n1_ := Aside0.mk (blk_drew BK342.out)
      have n2_ := Aside0.mk (below_drew1 HB.out)
      clear BK341 BK342 HB
      have BK341 := n0_
      have BK342 := n1_
      have HB := n2_
      clear n0_ n1_ n2_
      refine start_ (n := 10) (S := fun w' => w'.cell? ⟨gb341, 0, none⟩ = some (.int .i64 a0_0) ∧ w'.cell? ⟨gb341, 1, none⟩ = some (.slice A0_1 l0_1.length c0_1) ∧ w'.cell? ⟨gb341, 2, none⟩ = some (.slice A0_2 l0_2.length c0_2)) (ds := []) #[Z,Z,Z,Z,Z,Z,Z,Z,Z,Z] (by kernel_rfl) rfl rfl ⟨(blk_cell BK341.out 0).trans rfl, (blk_cell BK341.out 1).trans rfl, (blk_cell BK341.out 2).trans rfl⟩ (fun hHeld => ?_); refine with_tabW chamberlainlaw06_NetDoes.tab3 chamberlainlaw06_NetDoes.bits3 (fun HT_ HW_ => ?_)
      generalize wc.drew = w32 at BK341 BK342 HB hHeld ⊢
      refine take_ (i := 0) (N := some 35) (v := ?_) (a' := ?_) #[Y,Z,Z,Z,Z,Z,Z,Z,Z,Z] rfl rfl (take_ofW HT_.out HW_.out (by kernel_rfl)) (fun _ _ _ h => h) (Or.inl ⟨by rfl, ?_⟩) hHeld ?_ ?_
      rotate_left
      ·
       rintro w' ⟨s0, s1, s2⟩
       go_simp
       with_reducible rfl
      rotate_left
      ·
       simp only [Act.put, List.setIfInBounds_toArray, List.set_cons_zero, List.set_cons_succ, i64_w, i32_w]
       rfl
      refine take_ (i := 2) (N := some 37) (v := ?_) (a' := ?_) #[Y,Z,Y,Z,Z,Z,Z,Z,Z,Z] rfl rfl (take_ofW HT_.out HW_.out (by kernel_rfl)) (fun _ _ _ h => h) (Or.inl ⟨by rfl, ?_⟩) hHeld ?_ ?_
      rotate_left
      ·
       rintro w' ⟨s0, s1, s2⟩
       go_simp
       with_reducible rfl
      rotate_left
      ·
       simp only [Act.put, List.setIfInBounds_toArray, List.set_cons_zero, List.set_cons_succ, i64_w, i32_w]
       rfl
      refine one_ (i := 1) (N := some 36) #[Y,Y,Y,Z,Z,Z,Z,Z,Z,Z] rfl rfl (one_of HT_.out (by kernel_rfl)) (by decide) (fun K hK => ?_)
      refine goes_ Try.func10 (by kernel_rfl) rfl #[.agg #[.int .i64 a0_0, .slice A0_1 l0_1.length c0_1, .slice A0_2 l0_2.length c0_2]] (by rfl) rfl rfl (by (try simp only [List.map_toArray, List.map_cons, List.map_nil]); first | done | rfl | (simp only [List.length_drop, List.length_take]; rfl)) ?_
      with_reducible refine (net_Right.calls a0_0 _ _ l0_1 _ _ l0_2 t346 _ ?side1 ?side2 ?side3 ?side4 A25.out).mono ?_
      (case side1 => repeat (first | exact (Kd.C_below HR0_1.out HB.out) | (with_reducible refine Kd.C_alloc ?_ _) | (with_reducible refine Kd.C_drewN ?_ _) | (with_reducible refine Kd.C_drew ?_)))
      (case side2 => exact HC0_1.out)
      (case side3 => repeat (first | exact (Kd.C_below HR0_2.out HB.out) | (with_reducible refine Kd.C_alloc ?_ _) | (with_reducible refine Kd.C_drewN ?_ _) | (with_reducible refine Kd.C_drew ?_)))
      (case side4 => exact HC0_2.out)
      rintro e w33 ⟨rfl, hb⟩
      refine ⟨_, rfl, ?_⟩
      have n0_ := Aside0.mk (bb_ BK341.out hb)
      have n1_ := Aside0.mk (bb_ BK342.out hb)
      have n2_ := Aside0.mk (bs_ hb)
      clear BK341 BK342 HB
      have BK341 := n0_
      have BK342 := n1_
      have HB := n2_
      clear n0_ n1_ n2_
      (try clear hb)
      (try clear hb2)
      (try clear hk)
      (try clear hi)
      refine hK.out _ _ ⟨(blk_cell BK341.out 0).trans rfl, (blk_cell BK341.out 1).trans rfl, (blk_cell BK341.out 2).trans rfl⟩ (fun hHeld => ?_)
      clear hK K
      refine norm_ (a' := ?_) ?_ ?_
      rotate_left
      ·
       show Act.put _ (some 36) _ = _
       simp only [Act.put, List.setIfInBounds_toArray, List.set_cons_zero, List.set_cons_succ, i64_w, i32_w]
       rfl
      refine one_ (i := 3) (N := some 38) #[Y,Y,Y,Y,Z,Z,Z,Z,Z,Z] rfl rfl (one_of HT_.out (by kernel_rfl)) (by decide) (fun K hK => ?_)
      refine goes_ Try.func11 (by kernel_rfl) rfl #[.agg #[.int .i64 a0_0, .slice A0_1 l0_1.length c0_1, .slice A0_2 l0_2.length c0_2]] (by rfl) rfl rfl (by (try simp only [List.map_toArray, List.map_cons, List.map_nil]); first | done | rfl | (simp only [List.length_drop, List.length_take]; rfl)) ?_
      with_reducible refine (chamberlainref06_Right.calls a0_0 _ _ l0_1 _ _ l0_2 t347 _ ?side1 ?side2 ?side3 ?side4 A26.out).mono ?_
      (case side1 => repeat (first | exact (Kd.C_below HR0_1.out HB.out) | (with_reducible refine Kd.C_alloc ?_ _) | (with_reducible refine Kd.C_drewN ?_ _) | (with_reducible refine Kd.C_drew ?_)))
      (case side2 => exact HC0_1.out)
      (case side3 => repeat (first | exact (Kd.C_below HR0_2.out HB.out) | (with_reducible refine Kd.C_alloc ?_ _) | (with_reducible refine Kd.C_drewN ?_ _) | (with_reducible refine Kd.C_drew ?_)))
      (case side4 => exact HC0_2.out)
      rintro e w34 ⟨rfl, hb⟩
      refine ⟨_, rfl, ?_⟩
      have n0_ := Aside0.mk (bb_ BK341.out hb)
      have n1_ := Aside0.mk (bb_ BK342.out hb)
      have n2_ := Aside0.mk (bs_ hb)
      clear BK341 BK342 HB
      have BK341 := n0_
      have BK342 := n1_
      have HB := n2_
      clear n0_ n1_ n2_
      (try clear hb)
      (try clear hb2)
      (try clear hk)
      (try clear hi)
      refine hK.out _ _ ⟨(blk_cell BK341.out 0).trans rfl, (blk_cell BK341.out 1).trans rfl, (blk_cell BK341.out 2).trans rfl⟩ (fun hHeld => ?_)
      clear hK K
      refine norm_ (a' := ?_) ?_ ?_
      rotate_left
      ·
       show Act.put _ (some 38) _ = _
       simp only [Act.put, List.setIfInBounds_toArray, List.set_cons_zero, List.set_cons_succ, i64_w, i32_w]
       rfl
      refine pure_ (i := 4) (N := some 39) (v := ?_) (a' := ?_) #[Y,Y,Y,Y,Y,Z,Z,Z,Z,Z] rfl rfl (any_of HT_.out (by kernel_rfl)) (fun _ _ _ h => h) (Or.inl ⟨by rfl, ?_⟩) ?_ ?_
      rotate_left
      ·
       intro w'
       go_simp
       with_reducible rfl
      rotate_left
      ·
       simp only [Act.put, List.setIfInBounds_toArray, List.set_cons_zero, List.set_cons_succ, i64_w, i32_w]
       rfl
      refine pure_ (i := 5) (N := some 40) (v := ?_) (a' := ?_) #[Y,Y,Y,Y,Y,Y,Z,Z,Z,Z] rfl rfl (any_of HT_.out (by kernel_rfl)) (fun _ _ _ h => h) (Or.inl ⟨by rfl, ?_⟩) ?_ ?_
      rotate_left
      ·
       intro w'
       go_simp
       with_reducible rfl
      rotate_left
      ·
       simp only [Act.put, List.setIfInBounds_toArray, List.set_cons_zero, List.set_cons_succ, i64_w, i32_w]
       rfl
      refine take_ (i := 6) (N := some 41) (v := ?_) (a' := ?_) #[Y,Y,Y,Y,Y,Y,Y,Z,Z,Z] rfl rfl (take_ofW HT_.out HW_.out (by kernel_rfl)) (fun _ _ _ h => h) (Or.inl ⟨by rfl, ?_⟩) hHeld ?_ ?_
      rotate_left
      ·
       rintro w' ⟨s0, s1, s2⟩
       go_simp
       with_reducible rfl
      rotate_left
      ·
       simp only [Act.put, List.setIfInBounds_toArray, List.set_cons_zero, List.set_cons_succ, i64_w, i32_w]
       rfl
      refine one_ (i := 7) (N := some 42) #[Y,Y,Y,Y,Y,Y,Y,Y,Z,Z] rfl rfl (one_of HT_.out (by kernel_rfl)) (by decide) (fun K hK => ?_)
      refine goes_ Try.func11 (by kernel_rfl) rfl #[.agg #[.int .i64 a0_0, .slice A0_1 l0_1.length c0_1, .slice A0_2 l0_2.length c0_2]] (by rfl) rfl rfl (by (try simp only [List.map_toArray, List.map_cons, List.map_nil]); first | done | rfl | (simp only [List.length_drop, List.length_take]; rfl)) ?_
      with_reducible refine (chamberlainref06_Right.calls a0_0 _ _ l0_1 _ _ l0_2 t348 _ ?side1 ?side2 ?side3 ?side4 A31.out).mono ?_
      (case side1 => repeat (first | exact (Kd.C_below HR0_1.out HB.out) | (with_reducible refine Kd.C_alloc ?_ _) | (with_reducible refine Kd.C_drewN ?_ _) | (with_reducible refine Kd.C_drew ?_)))
      (case side2 => exact HC0_1.out)
      (case side3 => repeat (first | exact (Kd.C_below HR0_2.out HB.out) | (with_reducible refine Kd.C_alloc ?_ _) | (with_reducible refine Kd.C_drewN ?_ _) | (with_reducible refine Kd.C_drew ?_)))
      (case side4 => exact HC0_2.out)
      rintro e w35 ⟨rfl, hb⟩
      refine ⟨_, rfl, ?_⟩
      have n0_ := Aside0.mk (bb_ BK341.out hb)
      have n1_ := Aside0.mk (bb_ BK342.out hb)
      have n2_ := Aside0.mk (bs_ hb)
      clear BK341 BK342 HB
      have BK341 := n0_
      have BK342 := n1_
      have HB := n2_
      clear n0_ n1_ n2_
      (try clear hb)
      (try clear hb2)
      (try clear hk)
      (try clear hi)
      refine hK.out _ _ ⟨(blk_cell BK341.out 0).trans rfl, (blk_cell BK341.out 1).trans rfl, (blk_cell BK341.out 2).trans rfl⟩ (fun hHeld => ?_)
      clear hK K
      refine norm_ (a' := ?_) ?_ ?_
      rotate_left
      ·
       show Act.put _ (some 42) _ = _
       simp only [Act.put, List.setIfInBounds_toArray, List.set_cons_zero, List.set_cons_succ, i64_w, i32_w]
       rfl
      refine pure_ (i := 8) (N := some 43) (v := ?_) (a' := ?_) #[Y,Y,Y,Y,Y,Y,Y,Y,Y,Z] rfl rfl (any_of HT_.out (by kernel_rfl)) (fun _ _ _ h => h) (Or.inl ⟨by rfl, ?_⟩) ?_ ?_
      rotate_left
      ·
       intro w'
       go_simp
       with_reducible rfl
      rotate_left
      ·
       simp only [Act.put, List.setIfInBounds_toArray, List.set_cons_zero, List.set_cons_succ, i64_w, i32_w]
       rfl
      refine pure_ (i := 9) (N := some 44) (v := ?_) (a' := ?_) #[Y,Y,Y,Y,Y,Y,Y,Y,Y,Y] rfl rfl (any_of HT_.out (by kernel_rfl)) (fun _ _ _ h => h) (Or.inl ⟨by rfl, ?_⟩) ?_ ?_
      rotate_left
      ·
       intro w'
       go_simp
       with_reducible rfl
      rotate_left
      ·
       simp only [Act.put, List.setIfInBounds_toArray, List.set_cons_zero, List.set_cons_succ, i64_w, i32_w]
       rfl
      refine done_ (done_of HT_.out (by kernel_rfl)) ?_
      try go_wp2
      go_meet
      case rel => exact ⟨_, (!t348), (by first | rfl | (simp; done) | (simp [*]; done)), H', ⟨by have := HJ3.out; first | omega | exact Nat.le_refl _⟩, ⟨by (with_reducible repeat (first | refine blk_drewN ?_ _ | refine blk_drew ?_ | refine blk_alloc ?_ _)); exact BK341.out⟩, ⟨by (with_reducible repeat (first | refine blk_drewN ?_ _ | refine blk_drew ?_ | refine blk_alloc ?_ _)); exact BK342.out⟩, ⟨by repeat (first | (with_reducible first | exact HB.out | apply below_alloc | apply pw_below_drewN | apply below_drew1 | refine below_set ?_ GE341.out | refine below_set ?_ GE342.out) | exact HB.out)⟩⟩
    case rest =>
     clear HC24
     try clear c1
     try clear c2
     try clear p2
     try clear c3
     try clear c8
     try clear c10
     try clear c11
     try clear c12
     try clear c17
     try clear c21
     try clear c27
     try clear c27b0
     try clear c27b1
     try clear c27b2
     try clear hcz13_0
     try clear hcz13_1
     try clear hcz13_2
     try clear hcz15_0
     try clear hcz15_1
     try clear hcz18_0
     try clear hcz18_1
     try clear hcz18_2
     try clear hfz13_0
     try clear hfz13_1
     try clear hfz13_2
     try clear hfz15_0
     try clear hfz15_1
     try clear hfz18_0
     try clear hfz18_1
     try clear hfz18_2
     try clear p2
     obtain ⟨kq, x44_23, rfl, HA, HJ23, BK341, BK342, HB⟩ := hcut
     cases kq with
     | zero => exact absurd HA.out (by simp [chamberlainlaw06_NetDoes.j1])
     | succ kj23 =>
      have H := HA.out
      clear HA
      simp only [chamberlainlaw06_NetDoes.j1] at H
      by_cases c36 : x44_23 = true
      ·
       subst c36
       have H1 : ((net_Right.f a0_0 l0_1 l0_2).bind fun t349 => ((chamberlainref06_Right.f a0_0 l0_1 l0_2).bind fun t350 => (some (t349 == t350)))) = some r := by rw [if_pos rfl] at H; exact H
       clear H
       have H := H1
       clear H1
       replace H := Option.bind_eq_some_iff.mp H
       obtain ⟨t349, A370, H⟩ := H
       replace H : ((chamberlainref06_Right.f a0_0 l0_1 l0_2).bind fun t350 => (some (t349 == t350))) = some r := H
       have A37 := Aside0.mk A370
       clear A370
       replace H := Option.bind_eq_some_iff.mp H
       obtain ⟨t350, A380, H⟩ := H
       replace H : (some (t349 == t350)) = some r := H
       have A38 := Aside0.mk A380
       clear A380
       obtain rfl := Option.some.inj H
       try go_wp2
       have n0_ := Aside0.mk (blk_drew BK341.out)
       have n1_ := Aside0.mk (blk_drew BK342.out)
       have n2_ := Aside0.mk (below_drew1 HB.out)
       clear BK341 BK342 HB
       have BK341 := n0_
       have BK342 := n1_
       have HB := n2_
       clear n0_ n1_ n2_
       refine start_ (n := 6) (S := fun w' => w'.cell? ⟨gb341, 0, none⟩ = some (.int .i64 a0_0) ∧ w'.cell? ⟨gb341, 1, none⟩ = some (.slice A0_1 l0_1.length c0_1) ∧ w'.cell? ⟨gb341, 2, none⟩ = some (.slice A0_2 l0_2.length c0_2)) (ds := []) #[Z,Z,Z,Z,Z,Z] (by kernel_rfl) rfl rfl ⟨(blk_cell BK341.out 0).trans rfl, (blk_cell BK341.out 1).trans rfl, (blk_cell BK341.out 2).trans rfl⟩ (fun hHeld => ?_)
       generalize wc.drew = w39 at BK341 BK342 HB hHeld ⊢
       refine take_ (i := 0) (N := some 45) (v := ?_) (a' := ?_) #[Y,Z,Z,Z,Z,Z] rfl rfl (by kernel_rfl) (fun _ _ _ h => h) (Or.inl ⟨by rfl, ?_⟩) hHeld ?_ ?_
       rotate_left
       ·
        rintro w' ⟨s0, s1, s2⟩
        go_simp
        with_reducible rfl
       rotate_left
       ·
        simp only [Act.put, List.setIfInBounds_toArray, List.set_cons_zero, List.set_cons_succ, i64_w, i32_w]
        rfl
       refine take_ (i := 2) (N := some 47) (v := ?_) (a' := ?_) #[Y,Z,Y,Z,Z,Z] rfl rfl (by kernel_rfl) (fun _ _ _ h => h) (Or.inl ⟨by rfl, ?_⟩) hHeld ?_ ?_
       rotate_left
       ·
        rintro w' ⟨s0, s1, s2⟩
        go_simp
        with_reducible rfl
       rotate_left
       ·
        simp only [Act.put, List.setIfInBounds_toArray, List.set_cons_zero, List.set_cons_succ, i64_w, i32_w]
        rfl
       refine one_ (i := 1) (N := some 46) #[Y,Y,Y,Z,Z,Z] rfl rfl (by kernel_rfl) (by decide) (fun K hK => ?_)
       refine goes_ Try.func10 (by kernel_rfl) rfl #[.agg #[.int .i64 a0_0, .slice A0_1 l0_1.length c0_1, .slice A0_2 l0_2.length c0_2]] (by rfl) rfl rfl (by (try simp only [List.map_toArray, List.map_cons, List.map_nil]); first | done | rfl | (simp only [List.length_drop, List.length_take]; rfl)) ?_
       with_reducible refine (net_Right.calls a0_0 _ _ l0_1 _ _ l0_2 t349 _ ?side1 ?side2 ?side3 ?side4 A37.out).mono ?_
       (case side1 => repeat (first | exact (Kd.C_below HR0_1.out HB.out) | (with_reducible refine Kd.C_alloc ?_ _) | (with_reducible refine Kd.C_drewN ?_ _) | (with_reducible refine Kd.C_drew ?_)))
       (case side2 => exact HC0_1.out)
       (case side3 => repeat (first | exact (Kd.C_below HR0_2.out HB.out) | (with_reducible refine Kd.C_alloc ?_ _) | (with_reducible refine Kd.C_drewN ?_ _) | (with_reducible refine Kd.C_drew ?_)))
       (case side4 => exact HC0_2.out)
       rintro e w40 ⟨rfl, hb⟩
       refine ⟨_, rfl, ?_⟩
       have n0_ := Aside0.mk (bb_ BK341.out hb)
       have n2_ := Aside0.mk (bs_ hb)
       clear BK341 BK342 HB
       have BK341 := n0_
       have HB := n2_
       clear n0_ n2_
       (try clear hb)
       (try clear hb2)
       (try clear hk)
       (try clear hi)
       refine hK.out _ _ ⟨(blk_cell BK341.out 0).trans rfl, (blk_cell BK341.out 1).trans rfl, (blk_cell BK341.out 2).trans rfl⟩ (fun hHeld => ?_)
       clear hK K
       refine norm_ (a' := ?_) ?_ ?_
       rotate_left
       ·
        show Act.put _ (some 46) _ = _
        simp only [Act.put, List.setIfInBounds_toArray, List.set_cons_zero, List.set_cons_succ, i64_w, i32_w]
        rfl
       refine one_ (i := 3) (N := some 48) #[Y,Y,Y,Y,Z,Z] rfl rfl (by kernel_rfl) (by decide) (fun K hK => ?_)
       refine goes_ Try.func11 (by kernel_rfl) rfl #[.agg #[.int .i64 a0_0, .slice A0_1 l0_1.length c0_1, .slice A0_2 l0_2.length c0_2]] (by rfl) rfl rfl (by (try simp only [List.map_toArray, List.map_cons, List.map_nil]); first | done | rfl | (simp only [List.length_drop, List.length_take]; rfl)) ?_
       with_reducible refine (chamberlainref06_Right.calls a0_0 _ _ l0_1 _ _ l0_2 t350 _ ?side1 ?side2 ?side3 ?side4 A38.out).mono ?_
       (case side1 => repeat (first | exact (Kd.C_below HR0_1.out HB.out) | (with_reducible refine Kd.C_alloc ?_ _) | (with_reducible refine Kd.C_drewN ?_ _) | (with_reducible refine Kd.C_drew ?_)))
       (case side2 => exact HC0_1.out)
       (case side3 => repeat (first | exact (Kd.C_below HR0_2.out HB.out) | (with_reducible refine Kd.C_alloc ?_ _) | (with_reducible refine Kd.C_drewN ?_ _) | (with_reducible refine Kd.C_drew ?_)))
       (case side4 => exact HC0_2.out)
       rintro e w41 ⟨rfl, hb⟩
       refine ⟨_, rfl, ?_⟩
       have n0_ := Aside0.mk (bb_ BK341.out hb)
       have n2_ := Aside0.mk (bs_ hb)
       clear BK341 HB
       have BK341 := n0_
       have HB := n2_
       clear n0_ n2_
       (try clear hb)
       (try clear hb2)
       (try clear hk)
       (try clear hi)
       refine hK.out _ _ ⟨(blk_cell BK341.out 0).trans rfl, (blk_cell BK341.out 1).trans rfl, (blk_cell BK341.out 2).trans rfl⟩ (fun hHeld => ?_)
       clear hK K
       refine norm_ (a' := ?_) ?_ ?_
       rotate_left
       ·
        show Act.put _ (some 48) _ = _
        simp only [Act.put, List.setIfInBounds_toArray, List.set_cons_zero, List.set_cons_succ, i64_w, i32_w]
        rfl
       refine pure_ (i := 4) (N := some 49) (v := ?_) (a' := ?_) #[Y,Y,Y,Y,Y,Z] rfl rfl (by kernel_rfl) (fun _ _ _ h => h) (Or.inl ⟨by rfl, ?_⟩) ?_ ?_
       rotate_left
       ·
        intro w'
        go_simp
        with_reducible rfl
       rotate_left
       ·
        simp only [Act.put, List.setIfInBounds_toArray, List.set_cons_zero, List.set_cons_succ, i64_w, i32_w]
        rfl
       refine pure_ (i := 5) (N := some 6) (v := ?_) (a' := ?_) #[Y,Y,Y,Y,Y,Y] rfl rfl (by kernel_rfl) (fun _ _ _ h => h) (Or.inl ⟨by rfl, ?_⟩) ?_ ?_
       rotate_left
       ·
        intro w'
        go_simp
        with_reducible rfl
       rotate_left
       ·
        simp only [Act.put, List.setIfInBounds_toArray, List.set_cons_zero, List.set_cons_succ, i64_w, i32_w]
        rfl
       refine done_ (by kernel_rfl) ?_
       try go_wp2
       go_ret
       exact ⟨by first | rfl | (simp [errW_none, errW_some] <;> rfl) | (simp [*, errW_none, errW_some] <;> rfl), by repeat (first | (with_reducible first | exact HB.out | apply below_alloc | apply pw_below_drewN | apply below_drew1 | refine below_set ?_ GE341.out | refine below_set ?_ GE342.out) | exact HB.out)⟩
      ·
       replace c36 := Bool.eq_false_iff.mpr c36
       subst c36
       have H1 : ((net_Send.f a0_0 l0_1 l0_2 a1_0 l1_1).bind fun bt351 => ((chamberlainref06_Send.f a0_0 l0_1 l0_2 a1_0 l1_1).bind fun bt360 => ((net_Take.f a0_0 l0_1 l0_2 a2).bind fun bt369 => ((chamberlainref06_Take.f kj23 a0_0 l0_1 l0_2 a2).bind fun bt383 => ((net_Double.f a0_0 l0_1 l0_2 a2).bind fun bt397 => ((chamberlainref06_Double.f a0_0 l0_1 l0_2 a2).bind fun bt406 => ((chamberlainref06_Same.f kj23 bt351.1 bt351.2.1 bt351.2.2.1 bt360.1 bt360.2.1 bt360.2.2.1).bind fun t415 => (if t415 = true then (if bt351.2.2.2 = bt360.2.2.2 then ((chamberlainref06_Same.f kj23 bt369.1 bt369.2.1 bt369.2.2.1 bt383.1 bt383.2.1 bt383.2.2.1).bind fun t416 => (if t416 = true then ((chamberlainref06_One.f kj23 bt369.2.2.2.1 bt369.2.2.2.2.1 bt383.2.2.2.1 bt383.2.2.2.2.1).bind fun t417 => (if t417 = true then (if bt369.2.2.2.2.2 = bt383.2.2.2.2.2 then ((chamberlainref06_Same.f kj23 bt397.1 bt397.2.1 bt397.2.2.1 bt406.1 bt406.2.1 bt406.2.2.1).bind fun t418 => (if t418 = true then (if bt397.2.2.2 = bt406.2.2.2 then ((net_Free.f a0_0 l0_1 l0_2).bind fun t419 => (some (t419 == (wrap64 (a0_0 - (l0_1.length : Int)))))) else (some false)) else (some false))) else (some false)) else (some false))) else (some false))) else (some false)) else (some false))))))))) = some r := by rw [if_neg (show ¬ (false = true) by decide)] at H; exact H
       clear H
       have H := H1
       clear H1
       replace H := Option.bind_eq_some_iff.mp H
       obtain ⟨⟨t351, t352, t355, t358⟩, A420, H⟩ := H
       replace H : ((chamberlainref06_Send.f a0_0 l0_1 l0_2 a1_0 l1_1).bind fun bt360 => ((net_Take.f a0_0 l0_1 l0_2 a2).bind fun bt369 => ((chamberlainref06_Take.f kj23 a0_0 l0_1 l0_2 a2).bind fun bt383 => ((net_Double.f a0_0 l0_1 l0_2 a2).bind fun bt397 => ((chamberlainref06_Double.f a0_0 l0_1 l0_2 a2).bind fun bt406 => ((chamberlainref06_Same.f kj23 t351 t352 t355 bt360.1 bt360.2.1 bt360.2.2.1).bind fun t415 => (if t415 = true then (if t358 = bt360.2.2.2 then ((chamberlainref06_Same.f kj23 bt369.1 bt369.2.1 bt369.2.2.1 bt383.1 bt383.2.1 bt383.2.2.1).bind fun t416 => (if t416 = true then ((chamberlainref06_One.f kj23 bt369.2.2.2.1 bt369.2.2.2.2.1 bt383.2.2.2.1 bt383.2.2.2.2.1).bind fun t417 => (if t417 = true then (if bt369.2.2.2.2.2 = bt383.2.2.2.2.2 then ((chamberlainref06_Same.f kj23 bt397.1 bt397.2.1 bt397.2.2.1 bt406.1 bt406.2.1 bt406.2.2.1).bind fun t418 => (if t418 = true then (if bt397.2.2.2 = bt406.2.2.2 then ((net_Free.f a0_0 l0_1 l0_2).bind fun t419 => (some (t419 == (wrap64 (a0_0 - (l0_1.length : Int)))))) else (some false)) else (some false))) else (some false)) else (some false))) else (some false))) else (some false)) else (some false)))))))) = some r := H
       have A42 := Aside0.mk A420
       clear A420
       replace H := Option.bind_eq_some_iff.mp H
       obtain ⟨⟨t360, t361, t364, t367⟩, A430, H⟩ := H
       replace H : ((net_Take.f a0_0 l0_1 l0_2 a2).bind fun bt369 => ((chamberlainref06_Take.f kj23 a0_0 l0_1 l0_2 a2).bind fun bt383 => ((net_Double.f a0_0 l0_1 l0_2 a2).bind fun bt397 => ((chamberlainref06_Double.f a0_0 l0_1 l0_2 a2).bind fun bt406 => ((chamberlainref06_Same.f kj23 t351 t352 t355 t360 t361 t364).bind fun t415 => (if t415 = true then (if t358 = t367 then ((chamberlainref06_Same.f kj23 bt369.1 bt369.2.1 bt369.2.2.1 bt383.1 bt383.2.1 bt383.2.2.1).bind fun t416 => (if t416 = true then ((chamberlainref06_One.f kj23 bt369.2.2.2.1 bt369.2.2.2.2.1 bt383.2.2.2.1 bt383.2.2.2.2.1).bind fun t417 => (if t417 = true then (if bt369.2.2.2.2.2 = bt383.2.2.2.2.2 then ((chamberlainref06_Same.f kj23 bt397.1 bt397.2.1 bt397.2.2.1 bt406.1 bt406.2.1 bt406.2.2.1).bind fun t418 => (if t418 = true then (if bt397.2.2.2 = bt406.2.2.2 then ((net_Free.f a0_0 l0_1 l0_2).bind fun t419 => (some (t419 == (wrap64 (a0_0 - (l0_1.length : Int)))))) else (some false)) else (some false))) else (some false)) else (some false))) else (some false))) else (some false)) else (some false))))))) = some r := H
       have A43 := Aside0.mk A430
       clear A430
       replace H := Option.bind_eq_some_iff.mp H
       obtain ⟨⟨t369, t370, t373, t376, t377, t380⟩, A440, H⟩ := H
       replace H : ((chamberlainref06_Take.f kj23 a0_0 l0_1 l0_2 a2).bind fun bt383 => ((net_Double.f a0_0 l0_1 l0_2 a2).bind fun bt397 => ((chamberlainref06_Double.f a0_0 l0_1 l0_2 a2).bind fun bt406 => ((chamberlainref06_Same.f kj23 t351 t352 t355 t360 t361 t364).bind fun t415 => (if t415 = true then (if t358 = t367 then ((chamberlainref06_Same.f kj23 t369 t370 t373 bt383.1 bt383.2.1 bt383.2.2.1).bind fun t416 => (if t416 = true then ((chamberlainref06_One.f kj23 t376 t377 bt383.2.2.2.1 bt383.2.2.2.2.1).bind fun t417 => (if t417 = true then (if t380 = bt383.2.2.2.2.2 then ((chamberlainref06_Same.f kj23 bt397.1 bt397.2.1 bt397.2.2.1 bt406.1 bt406.2.1 bt406.2.2.1).bind fun t418 => (if t418 = true then (if bt397.2.2.2 = bt406.2.2.2 then ((net_Free.f a0_0 l0_1 l0_2).bind fun t419 => (some (t419 == (wrap64 (a0_0 - (l0_1.length : Int)))))) else (some false)) else (some false))) else (some false)) else (some false))) else (some false))) else (some false)) else (some false)))))) = some r := H
       have A44 := Aside0.mk A440
       clear A440
       replace H := Option.bind_eq_some_iff.mp H
       obtain ⟨⟨t383, t384, t387, t390, t391, t394⟩, A450, H⟩ := H
       replace H : ((net_Double.f a0_0 l0_1 l0_2 a2).bind fun bt397 => ((chamberlainref06_Double.f a0_0 l0_1 l0_2 a2).bind fun bt406 => ((chamberlainref06_Same.f kj23 t351 t352 t355 t360 t361 t364).bind fun t415 => (if t415 = true then (if t358 = t367 then ((chamberlainref06_Same.f kj23 t369 t370 t373 t383 t384 t387).bind fun t416 => (if t416 = true then ((chamberlainref06_One.f kj23 t376 t377 t390 t391).bind fun t417 => (if t417 = true then (if t380 = t394 then ((chamberlainref06_Same.f kj23 bt397.1 bt397.2.1 bt397.2.2.1 bt406.1 bt406.2.1 bt406.2.2.1).bind fun t418 => (if t418 = true then (if bt397.2.2.2 = bt406.2.2.2 then ((net_Free.f a0_0 l0_1 l0_2).bind fun t419 => (some (t419 == (wrap64 (a0_0 - (l0_1.length : Int)))))) else (some false)) else (some false))) else (some false)) else (some false))) else (some false))) else (some false)) else (some false))))) = some r := H
       have A45 := Aside0.mk A450
       clear A450
       replace H := Option.bind_eq_some_iff.mp H
       obtain ⟨⟨t397, t398, t401, t404⟩, A460, H⟩ := H
       replace H : ((chamberlainref06_Double.f a0_0 l0_1 l0_2 a2).bind fun bt406 => ((chamberlainref06_Same.f kj23 t351 t352 t355 t360 t361 t364).bind fun t415 => (if t415 = true then (if t358 = t367 then ((chamberlainref06_Same.f kj23 t369 t370 t373 t383 t384 t387).bind fun t416 => (if t416 = true then ((chamberlainref06_One.f kj23 t376 t377 t390 t391).bind fun t417 => (if t417 = true then (if t380 = t394 then ((chamberlainref06_Same.f kj23 t397 t398 t401 bt406.1 bt406.2.1 bt406.2.2.1).bind fun t418 => (if t418 = true then (if t404 = bt406.2.2.2 then ((net_Free.f a0_0 l0_1 l0_2).bind fun t419 => (some (t419 == (wrap64 (a0_0 - (l0_1.length : Int)))))) else (some false)) else (some false))) else (some false)) else (some false))) else (some false))) else (some false)) else (some false)))) = some r := H
       have A46 := Aside0.mk A460
       clear A460
       replace H := Option.bind_eq_some_iff.mp H
       obtain ⟨⟨t406, t407, t410, t413⟩, A470, H⟩ := H
       replace H : ((chamberlainref06_Same.f kj23 t351 t352 t355 t360 t361 t364).bind fun t415 => (if t415 = true then (if t358 = t367 then ((chamberlainref06_Same.f kj23 t369 t370 t373 t383 t384 t387).bind fun t416 => (if t416 = true then ((chamberlainref06_One.f kj23 t376 t377 t390 t391).bind fun t417 => (if t417 = true then (if t380 = t394 then ((chamberlainref06_Same.f kj23 t397 t398 t401 t406 t407 t410).bind fun t418 => (if t418 = true then (if t404 = t413 then ((net_Free.f a0_0 l0_1 l0_2).bind fun t419 => (some (t419 == (wrap64 (a0_0 - (l0_1.length : Int)))))) else (some false)) else (some false))) else (some false)) else (some false))) else (some false))) else (some false)) else (some false))) = some r := H
       have A47 := Aside0.mk A470
       clear A470
       replace H := Option.bind_eq_some_iff.mp H
       obtain ⟨t415, A480, H⟩ := H
       replace H : (if t415 = true then (if t358 = t367 then ((chamberlainref06_Same.f kj23 t369 t370 t373 t383 t384 t387).bind fun t416 => (if t416 = true then ((chamberlainref06_One.f kj23 t376 t377 t390 t391).bind fun t417 => (if t417 = true then (if t380 = t394 then ((chamberlainref06_Same.f kj23 t397 t398 t401 t406 t407 t410).bind fun t418 => (if t418 = true then (if t404 = t413 then ((net_Free.f a0_0 l0_1 l0_2).bind fun t419 => (some (t419 == (wrap64 (a0_0 - (l0_1.length : Int)))))) else (some false)) else (some false))) else (some false)) else (some false))) else (some false))) else (some false)) else (some false)) = some r := H
       have A48 := Aside0.mk A480
       clear A480
       by_cases c49 : t415 = true
       ·
        subst c49
        have H1 : (if t358 = t367 then ((chamberlainref06_Same.f kj23 t369 t370 t373 t383 t384 t387).bind fun t416 => (if t416 = true then ((chamberlainref06_One.f kj23 t376 t377 t390 t391).bind fun t417 => (if t417 = true then (if t380 = t394 then ((chamberlainref06_Same.f kj23 t397 t398 t401 t406 t407 t410).bind fun t418 => (if t418 = true then (if t404 = t413 then ((net_Free.f a0_0 l0_1 l0_2).bind fun t419 => (some (t419 == (wrap64 (a0_0 - (l0_1.length : Int)))))) else (some false)) else (some false))) else (some false)) else (some false))) else (some false))) else (some false)) = some r := by rw [if_pos rfl] at H; exact H
        clear H
        have H := H1
        clear H1
        by_cases c50 : t358 = t367
        ·
         rw [if_pos c50] at H
         have c50b0 : (t358 == t367) = true := beq_iff_eq.mpr c50
         have c50b1 : (t358 != t367) = false := bne_eq_false_iff_eq.mpr c50
         clear c50
         replace H := Option.bind_eq_some_iff.mp H
         obtain ⟨t416, A510, H⟩ := H
         replace H : (if t416 = true then ((chamberlainref06_One.f kj23 t376 t377 t390 t391).bind fun t417 => (if t417 = true then (if t380 = t394 then ((chamberlainref06_Same.f kj23 t397 t398 t401 t406 t407 t410).bind fun t418 => (if t418 = true then (if t404 = t413 then ((net_Free.f a0_0 l0_1 l0_2).bind fun t419 => (some (t419 == (wrap64 (a0_0 - (l0_1.length : Int)))))) else (some false)) else (some false))) else (some false)) else (some false))) else (some false)) = some r := H
         have A51 := Aside0.mk A510
         clear A510
         by_cases c52 : t416 = true
         ·
          subst c52
          have H1 : ((chamberlainref06_One.f kj23 t376 t377 t390 t391).bind fun t417 => (if t417 = true then (if t380 = t394 then ((chamberlainref06_Same.f kj23 t397 t398 t401 t406 t407 t410).bind fun t418 => (if t418 = true then (if t404 = t413 then ((net_Free.f a0_0 l0_1 l0_2).bind fun t419 => (some (t419 == (wrap64 (a0_0 - (l0_1.length : Int)))))) else (some false)) else (some false))) else (some false)) else (some false))) = some r := by rw [if_pos rfl] at H; exact H
          clear H
          have H := H1
          clear H1
          replace H := Option.bind_eq_some_iff.mp H
          obtain ⟨t417, A530, H⟩ := H
          replace H : (if t417 = true then (if t380 = t394 then ((chamberlainref06_Same.f kj23 t397 t398 t401 t406 t407 t410).bind fun t418 => (if t418 = true then (if t404 = t413 then ((net_Free.f a0_0 l0_1 l0_2).bind fun t419 => (some (t419 == (wrap64 (a0_0 - (l0_1.length : Int)))))) else (some false)) else (some false))) else (some false)) else (some false)) = some r := H
          have A53 := Aside0.mk A530
          clear A530
          by_cases c54 : t417 = true
          ·
           subst c54
           have H1 : (if t380 = t394 then ((chamberlainref06_Same.f kj23 t397 t398 t401 t406 t407 t410).bind fun t418 => (if t418 = true then (if t404 = t413 then ((net_Free.f a0_0 l0_1 l0_2).bind fun t419 => (some (t419 == (wrap64 (a0_0 - (l0_1.length : Int)))))) else (some false)) else (some false))) else (some false)) = some r := by rw [if_pos rfl] at H; exact H
           clear H
           have H := H1
           clear H1
           by_cases c55 : t380 = t394
           ·
            rw [if_pos c55] at H
            have c55b0 : (t380 == t394) = true := beq_iff_eq.mpr c55
            have c55b1 : (t380 != t394) = false := bne_eq_false_iff_eq.mpr c55
            clear c55
            replace H := Option.bind_eq_some_iff.mp H
            obtain ⟨t418, A560, H⟩ := H
            replace H : (if t418 = true then (if t404 = t413 then ((net_Free.f a0_0 l0_1 l0_2).bind fun t419 => (some (t419 == (wrap64 (a0_0 - (l0_1.length : Int)))))) else (some false)) else (some false)) = some r := H
            have A56 := Aside0.mk A560
            clear A560
            by_cases c57 : t418 = true
            ·
             subst c57
             have H1 : (if t404 = t413 then ((net_Free.f a0_0 l0_1 l0_2).bind fun t419 => (some (t419 == (wrap64 (a0_0 - (l0_1.length : Int)))))) else (some false)) = some r := by rw [if_pos rfl] at H; exact H
             clear H
             have H := H1
             clear H1
             by_cases c58 : t404 = t413
             ·
              rw [if_pos c58] at H
              have c58b0 : (t404 == t413) = true := beq_iff_eq.mpr c58
              have c58b1 : (t404 != t413) = false := bne_eq_false_iff_eq.mpr c58
              clear c58
              replace H := Option.bind_eq_some_iff.mp H
              obtain ⟨t419, A590, H⟩ := H
              replace H : (some (t419 == (wrap64 (a0_0 - (l0_1.length : Int))))) = some r := H
              have A59 := Aside0.mk A590
              clear A590
              obtain rfl := Option.some.inj H
              have hnb60 := NB341_342.out
              have hnc60 := NB342_341.out
              have ⟨hcz61_0, hcz61_1, hcz61_2⟩ := cz3_ BK341.out
              have ⟨hfz61_0, hfz61_1, hfz61_2⟩ := fz3_ BK341.out
              have ⟨hcz62_0, hcz62_1⟩ := cz2_ BK342.out
              have ⟨hfz62_0, hfz62_1⟩ := fz2_ BK342.out
              try go_wp2_with (first | ((with_reducible refine gate_callee (f := 12) rfl ?_); refine goesL_ (some 53) rfl rfl Try.func12 (by kernel_rfl) rfl #[.agg #[.int .i64 a0_0, .slice A0_1 l0_1.length c0_1, .slice A0_2 l0_2.length c0_2], .agg #[.int .u32 a1_0, .slice A1_1 l1_1.length c1_1]] rfl (by (try simp only [List.map_toArray, List.map_cons, List.map_nil]); first | done | rfl | (simp only [List.length_drop, List.length_take]; rfl)) ?_; (with_reducible refine (net_Send.calls a0_0 (fun k_ => k_ < w.heap.size) _ _ l0_1 (fun k_ => k_ < w.heap.size) _ _ l0_2 a1_0 (fun k_ => k_ < w.heap.size) _ _ l1_1 t351 t352 t355 t358 _ ?side1 ?side2 ?side3 A42.out).mono ?_); (case side1 => exact Kd.V_mk HC0_1.out (Kd.F_below (Kd.C_F k29_heap HR0_1.out) (by repeat (first | (with_reducible first | exact HB.out | apply below_alloc | apply pw_below_drewN | apply below_drew1 | refine below_set ?_ GE341.out | refine below_set ?_ GE342.out) | exact HB.out)))); (case side2 => exact Kd.V_mk HC0_2.out (Kd.F_below (Kd.C_F (Kd.heap_slice 26 (Kd.heap_int .u32)) HR0_2.out) (by repeat (first | (with_reducible first | exact HB.out | apply below_alloc | apply pw_below_drewN | apply below_drew1 | refine below_set ?_ GE341.out | refine below_set ?_ GE342.out) | exact HB.out)))); (case side3 => exact Kd.V_mk HC1_1.out (Kd.F_below (Kd.C_F (Kd.heap_int .u32) HR1_1.out) (by repeat (first | (with_reducible first | exact HB.out | apply below_alloc | apply pw_below_drewN | apply below_drew1 | refine below_set ?_ GE341.out | refine below_set ?_ GE342.out) | exact HB.out)))); rintro e w63 ⟨v353, v356, rfl, ho0, ho1, hb⟩; refine ⟨_, rfl, ?_⟩; have n0_ := Aside0.mk (Kd.V_lower (Kd.V_mono (ok' := fun k_ => k_ ≠ gb341 ∧ k_ ≠ gb342) ho0 (fun k_ hk_ => ⟨Or.elim hk_ (fun hs_ => Or.elim hs_ (fun hs_ => fun e_ => Nat.not_le.2 hs_ (by rw [e_]; exact GW341.out)) (fun hs_ => Or.elim hs_ (fun hs_ => fun e_ => Nat.not_le.2 hs_ (by rw [e_]; exact GW341.out)) (fun hs_ => fun e_ => Nat.not_le.2 hs_ (by rw [e_]; exact GW341.out)))) (fun hn_ => (fb_ BK341.out k_ hn_)), Or.elim hk_ (fun hs_ => Or.elim hs_ (fun hs_ => fun e_ => Nat.not_le.2 hs_ (by rw [e_]; exact GW342.out)) (fun hs_ => Or.elim hs_ (fun hs_ => fun e_ => Nat.not_le.2 hs_ (by rw [e_]; exact GW342.out)) (fun hs_ => fun e_ => Nat.not_le.2 hs_ (by rw [e_]; exact GW342.out)))) (fun hn_ => (fb_ BK342.out k_ hn_))⟩)) (below_size (by repeat (first | (with_reducible first | exact HB.out | apply below_alloc | apply pw_below_drewN | apply below_drew1 | refine below_set ?_ GE341.out | refine below_set ?_ GE342.out) | exact HB.out)))); have n1_ := Aside0.mk (Kd.V_lower (Kd.V_mono (ok' := fun k_ => k_ ≠ gb341 ∧ k_ ≠ gb342) ho1 (fun k_ hk_ => ⟨Or.elim hk_ (fun hs_ => Or.elim hs_ (fun hs_ => fun e_ => Nat.not_le.2 hs_ (by rw [e_]; exact GW341.out)) (fun hs_ => Or.elim hs_ (fun hs_ => fun e_ => Nat.not_le.2 hs_ (by rw [e_]; exact GW341.out)) (fun hs_ => fun e_ => Nat.not_le.2 hs_ (by rw [e_]; exact GW341.out)))) (fun hn_ => (fb_ BK341.out k_ hn_)), Or.elim hk_ (fun hs_ => Or.elim hs_ (fun hs_ => fun e_ => Nat.not_le.2 hs_ (by rw [e_]; exact GW342.out)) (fun hs_ => Or.elim hs_ (fun hs_ => fun e_ => Nat.not_le.2 hs_ (by rw [e_]; exact GW342.out)) (fun hs_ => fun e_ => Nat.not_le.2 hs_ (by rw [e_]; exact GW342.out)))) (fun hn_ => (fb_ BK342.out k_ hn_))⟩)) (below_size (by repeat (first | (with_reducible first | exact HB.out | apply below_alloc | apply pw_below_drewN | apply below_drew1 | refine below_set ?_ GE341.out | refine below_set ?_ GE342.out) | exact HB.out)))); have n2_ := Aside0.mk (bb_ BK341.out hb); have n3_ := Aside0.mk (bb_ BK342.out hb); have n4_ := Aside0.mk (bs_ hb); clear BK341 BK342 HB; have HO354 := n0_; have HO357 := n1_; have BK341 := n2_; have BK342 := n3_; have HB := n4_; clear n0_ n1_ n2_ n3_ n4_; (try clear hb); (try clear hb2); (try clear hk); (try clear hi); (try clear ho0); (try clear ho1)) | ((with_reducible refine gate_dst (N := 7) rfl ?_); (try (refine gate_guard (by rfl) ?_; dsimp only)); refine box_event ?hg (N := 7) ?hd (cs := #[.int .i64 0, .slice none 0 0, .slice none 0 0]) (t := 25) ?hr ?_; (case hd => rfl); (case hg => rfl); (case hr => first | (go_simp; done) | (go_simp; rfl)); intro gb359 hg w64 hbox hb; have n0_ := Aside0.mk (ve_ HO354.out gb359 hg hb); have n1_ := Aside0.mk (ve_ HO357.out gb359 hg hb); have n2_ := Aside0.mk (bb_ BK341.out hb); have n3_ := Aside0.mk (bb_ BK342.out hb); have n4_ := Aside0.mk (bs_ hb); have n5_ := Aside0.mk (hbox); have n6_ := Aside0.mk ((ge_ hg : w.heap.size ≤ gb359)); have n7_ := Aside0.mk ((ge_ hg : w.heap.size ≤ gb359)); have n8_ := Aside0.mk ((by rw [hg]; exact Nat.ne_of_lt (blk_lt (g := gb341) (o := .cells #[.int .i64 a0_0, .slice A0_1 l0_1.length c0_1, .slice A0_2 l0_2.length c0_2] 25 (0, 0)) (by (with_reducible repeat (first | refine blk_drewN ?_ _ | refine blk_drew ?_ | refine blk_alloc ?_ _)); exact BK341.out)) : gb341 ≠ gb359)); have n9_ := Aside0.mk ((by rw [hg]; exact Nat.ne_of_gt (blk_lt (g := gb341) (o := .cells #[.int .i64 a0_0, .slice A0_1 l0_1.length c0_1, .slice A0_2 l0_2.length c0_2] 25 (0, 0)) (by (with_reducible repeat (first | refine blk_drewN ?_ _ | refine blk_drew ?_ | refine blk_alloc ?_ _)); exact BK341.out)) : gb359 ≠ gb341)); have n10_ := Aside0.mk ((by rw [hg]; exact Nat.ne_of_lt (blk_lt (g := gb342) (o := .cells #[.int .u32 a1_0, .slice A1_1 l1_1.length c1_1] 29 (0, 0)) (by (with_reducible repeat (first | refine blk_drewN ?_ _ | refine blk_drew ?_ | refine blk_alloc ?_ _)); exact BK342.out)) : gb342 ≠ gb359)); have n11_ := Aside0.mk ((by rw [hg]; exact Nat.ne_of_gt (blk_lt (g := gb342) (o := .cells #[.int .u32 a1_0, .slice A1_1 l1_1.length c1_1] 29 (0, 0)) (by (with_reducible repeat (first | refine blk_drewN ?_ _ | refine blk_drew ?_ | refine blk_alloc ?_ _)); exact BK342.out)) : gb359 ≠ gb342)); clear HO354 HO357 BK341 BK342 HB; have HO354 := n0_; have HO357 := n1_; have BK341 := n2_; have BK342 := n3_; have HB := n4_; have BK359 := n5_; have GW359 := n6_; have GE359 := n7_; have NB341_359 := n8_; have NB359_341 := n9_; have NB342_359 := n10_; have NB359_342 := n11_; clear n0_ n1_ n2_ n3_ n4_ n5_ n6_ n7_ n8_ n9_ n10_ n11_; clear hb hbox hg; have hnb65 := NB359_341.out; have hnc65 := NB341_359.out; have hnb66 := NB359_342.out; have hnc66 := NB342_359.out; have ⟨hcz67_0, hcz67_1, hcz67_2⟩ := cz3_ BK359.out; have ⟨hfz67_0, hfz67_1, hfz67_2⟩ := fz3_ BK359.out; obtain ⟨Ao68, co68, eo68⟩ := Kd.V_slice HO354.out; subst eo68; obtain ⟨Ao69, co69, eo69⟩ := Kd.V_slice HO357.out; subst eo69) | ((with_reducible refine gate_store (t := 25) (p := 7) rfl ?_); refine store_event (t := 25) (p := 7) (v := ?vo_w70) (w1 := (((w64.setCell ⟨gb359, 0, none⟩ (.int .i64 t351)).setCell ⟨gb359, 1, none⟩ (.slice Ao68 t352.length co68)).setCell ⟨gb359, 2, none⟩ (.slice Ao69 t355.length co69))) ?hg ?ho ?hn ?hr ?_; (case ho => rfl); (case hg => rfl); (case hn => rfl); (case hr => first | (go_simp; done) | (go_simp; rfl)); intro w70 hw; have n0_ : Aside0 (Kd.V k29 29 w70 w.heap.size (fun k_ => k_ ≠ gb341 ∧ k_ ≠ gb342 ∧ k_ ≠ gb359) (.slice Ao68 t352.length co68) t352) := ⟨(by rw [hw]; exact (by (with_reducible repeat (first | apply Kd.V_alloc | apply Kd.V_drewN | apply Kd.V_drew)); exact Kd.V_mono (v3_ (g := gb359) (Kd.V_mono HO354.out (fun k_ hk => (⟨hk, hk.2⟩ : _ ∧ k_ ≠ gb359)))) (fun _ hk => ⟨hk.1.1.1, ⟨hk.1.1.2, hk.1.2⟩⟩)))⟩; have n1_ : Aside0 (Kd.V (Kd.slice 26 (Kd.int .u32)) 27 w70 w.heap.size (fun k_ => k_ ≠ gb341 ∧ k_ ≠ gb342 ∧ k_ ≠ gb359) (.slice Ao69 t355.length co69) t355) := ⟨(by rw [hw]; exact (by (with_reducible repeat (first | apply Kd.V_alloc | apply Kd.V_drewN | apply Kd.V_drew)); exact Kd.V_mono (v3_ (g := gb359) (Kd.V_mono HO357.out (fun k_ hk => (⟨hk, hk.2⟩ : _ ∧ k_ ≠ gb359)))) (fun _ hk => ⟨hk.1.1.1, ⟨hk.1.1.2, hk.1.2⟩⟩)))⟩; have n2_ : Aside0 (w70.heap[gb341]? = some (.cells #[.int .i64 a0_0, .slice A0_1 l0_1.length c0_1, .slice A0_2 l0_2.length c0_2] 25 (0, 0))) := ⟨(by rw [hw]; exact (bf3_ BK341.out NB341_359.out))⟩; have n3_ : Aside0 (w70.heap[gb342]? = some (.cells #[.int .u32 a1_0, .slice A1_1 l1_1.length c1_1] 29 (0, 0))) := ⟨(by rw [hw]; exact (bf3_ BK342.out NB342_359.out))⟩; have n4_ : Aside0 (w70.heap[gb359]? = some (.cells #[.int .i64 t351, .slice Ao68 t352.length co68, .slice Ao69 t355.length co69] 25 (0, 0))) := ⟨(by rw [hw]; exact (bp3_ BK359.out))⟩; have n5_ : Aside0 (Below w.heap.size w w70) := ⟨(by rw [hw]; exact (by repeat (first | (with_reducible first | exact HB.out | apply below_alloc | apply pw_below_drewN | apply below_drew1 | refine below_set ?_ GE341.out | refine below_set ?_ GE342.out | refine below_set ?_ GE359.out) | exact HB.out)))⟩; clear hw HO354 HO357 BK341 BK342 BK359 HB; have HO354 := n0_; have HO357 := n1_; have BK341 := n2_; have BK342 := n3_; have BK359 := n4_; have HB := n5_; clear n0_ n1_ n2_ n3_ n4_ n5_; have ⟨hcz71_0, hcz71_1, hcz71_2⟩ := cz3_ BK341.out; have ⟨hfz71_0, hfz71_1, hfz71_2⟩ := fz3_ BK341.out; have ⟨hcz72_0, hcz72_1⟩ := cz2_ BK342.out; have ⟨hfz72_0, hfz72_1⟩ := fz2_ BK342.out) | ((with_reducible refine gate_callee (f := 13) rfl ?_); refine goesL_ (some 59) rfl rfl Try.func13 (by kernel_rfl) rfl #[.agg #[.int .i64 a0_0, .slice A0_1 l0_1.length c0_1, .slice A0_2 l0_2.length c0_2], .agg #[.int .u32 a1_0, .slice A1_1 l1_1.length c1_1]] rfl (by (try simp only [List.map_toArray, List.map_cons, List.map_nil]); first | done | rfl | (simp only [List.length_drop, List.length_take]; rfl)) ?_; (with_reducible refine (chamberlainref06_Send.calls a0_0 (fun k_ => k_ < w.heap.size) _ _ l0_1 (fun k_ => k_ < w.heap.size) _ _ l0_2 a1_0 (fun k_ => k_ < w.heap.size) _ _ l1_1 t360 t361 t364 t367 _ ?side1 ?side2 ?side3 A43.out).mono ?_); (case side1 => exact Kd.V_mk HC0_1.out (Kd.F_below (Kd.C_F k29_heap HR0_1.out) (by repeat (first | (with_reducible first | exact HB.out | apply below_alloc | apply pw_below_drewN | apply below_drew1 | refine below_set ?_ GE341.out | refine below_set ?_ GE342.out | refine below_set ?_ GE359.out) | exact HB.out)))); (case side2 => exact Kd.V_mk HC0_2.out (Kd.F_below (Kd.C_F (Kd.heap_slice 26 (Kd.heap_int .u32)) HR0_2.out) (by repeat (first | (with_reducible first | exact HB.out | apply below_alloc | apply pw_below_drewN | apply below_drew1 | refine below_set ?_ GE341.out | refine below_set ?_ GE342.out | refine below_set ?_ GE359.out) | exact HB.out)))); (case side3 => exact Kd.V_mk HC1_1.out (Kd.F_below (Kd.C_F (Kd.heap_int .u32) HR1_1.out) (by repeat (first | (with_reducible first | exact HB.out | apply below_alloc | apply pw_below_drewN | apply below_drew1 | refine below_set ?_ GE341.out | refine below_set ?_ GE342.out | refine below_set ?_ GE359.out) | exact HB.out)))); rintro e w73 ⟨v362, v365, rfl, ho0, ho1, hb⟩; refine ⟨_, rfl, ?_⟩; have n0_ := Aside0.mk (vb_ HO354.out hb); have n1_ := Aside0.mk (vb_ HO357.out hb); have n2_ := Aside0.mk (Kd.V_lower (Kd.V_mono (ok' := fun k_ => k_ ≠ gb341 ∧ k_ ≠ gb342 ∧ k_ ≠ gb359) ho0 (fun k_ hk_ => ⟨Or.elim hk_ (fun hs_ => Or.elim hs_ (fun hs_ => fun e_ => Nat.not_le.2 hs_ (by rw [e_]; exact GW341.out)) (fun hs_ => Or.elim hs_ (fun hs_ => fun e_ => Nat.not_le.2 hs_ (by rw [e_]; exact GW341.out)) (fun hs_ => fun e_ => Nat.not_le.2 hs_ (by rw [e_]; exact GW341.out)))) (fun hn_ => (fb_ BK341.out k_ hn_)), Or.elim hk_ (fun hs_ => Or.elim hs_ (fun hs_ => fun e_ => Nat.not_le.2 hs_ (by rw [e_]; exact GW342.out)) (fun hs_ => Or.elim hs_ (fun hs_ => fun e_ => Nat.not_le.2 hs_ (by rw [e_]; exact GW342.out)) (fun hs_ => fun e_ => Nat.not_le.2 hs_ (by rw [e_]; exact GW342.out)))) (fun hn_ => (fb_ BK342.out k_ hn_)), Or.elim hk_ (fun hs_ => Or.elim hs_ (fun hs_ => fun e_ => Nat.not_le.2 hs_ (by rw [e_]; exact GW359.out)) (fun hs_ => Or.elim hs_ (fun hs_ => fun e_ => Nat.not_le.2 hs_ (by rw [e_]; exact GW359.out)) (fun hs_ => fun e_ => Nat.not_le.2 hs_ (by rw [e_]; exact GW359.out)))) (fun hn_ => (fb_ BK359.out k_ hn_))⟩)) (below_size (by repeat (first | (with_reducible first | exact HB.out | apply below_alloc | apply pw_below_drewN | apply below_drew1 | refine below_set ?_ GE341.out | refine below_set ?_ GE342.out | refine below_set ?_ GE359.out) | exact HB.out)))); have n3_ := Aside0.mk (Kd.V_lower (Kd.V_mono (ok' := fun k_ => k_ ≠ gb341 ∧ k_ ≠ gb342 ∧ k_ ≠ gb359) ho1 (fun k_ hk_ => ⟨Or.elim hk_ (fun hs_ => Or.elim hs_ (fun hs_ => fun e_ => Nat.not_le.2 hs_ (by rw [e_]; exact GW341.out)) (fun hs_ => Or.elim hs_ (fun hs_ => fun e_ => Nat.not_le.2 hs_ (by rw [e_]; exact GW341.out)) (fun hs_ => fun e_ => Nat.not_le.2 hs_ (by rw [e_]; exact GW341.out)))) (fun hn_ => (fb_ BK341.out k_ hn_)), Or.elim hk_ (fun hs_ => Or.elim hs_ (fun hs_ => fun e_ => Nat.not_le.2 hs_ (by rw [e_]; exact GW342.out)) (fun hs_ => Or.elim hs_ (fun hs_ => fun e_ => Nat.not_le.2 hs_ (by rw [e_]; exact GW342.out)) (fun hs_ => fun e_ => Nat.not_le.2 hs_ (by rw [e_]; exact GW342.out)))) (fun hn_ => (fb_ BK342.out k_ hn_)), Or.elim hk_ (fun hs_ => Or.elim hs_ (fun hs_ => fun e_ => Nat.not_le.2 hs_ (by rw [e_]; exact GW359.out)) (fun hs_ => Or.elim hs_ (fun hs_ => fun e_ => Nat.not_le.2 hs_ (by rw [e_]; exact GW359.out)) (fun hs_ => fun e_ => Nat.not_le.2 hs_ (by rw [e_]; exact GW359.out)))) (fun hn_ => (fb_ BK359.out k_ hn_))⟩)) (below_size (by repeat (first | (with_reducible first | exact HB.out | apply below_alloc | apply pw_below_drewN | apply below_drew1 | refine below_set ?_ GE341.out | refine below_set ?_ GE342.out | refine below_set ?_ GE359.out) | exact HB.out)))); have n4_ := Aside0.mk (bb_ BK341.out hb); have n5_ := Aside0.mk (bb_ BK342.out hb); have n6_ := Aside0.mk (bb_ BK359.out hb); have n7_ := Aside0.mk (bs_ hb); clear HO354 HO357 BK341 BK342 BK359 HB; have HO354 := n0_; have HO357 := n1_; have HO363 := n2_; have HO366 := n3_; have BK341 := n4_; have BK342 := n5_; have BK359 := n6_; have HB := n7_; clear n0_ n1_ n2_ n3_ n4_ n5_ n6_ n7_; (try clear hb); (try clear hb2); (try clear hk); (try clear hi); (try clear ho0); (try clear ho1)) | ((with_reducible refine gate_dst (N := 9) rfl ?_); (try (refine gate_guard (by rfl) ?_; dsimp only)); refine box_event ?hg (N := 9) ?hd (cs := #[.int .i64 0, .slice none 0 0, .slice none 0 0]) (t := 25) ?hr ?_; (case hd => rfl); (case hg => rfl); (case hr => first | (go_simp; done) | (go_simp; rfl)); intro gb368 hg w74 hbox hb; have n0_ := Aside0.mk (ve_ HO354.out gb368 hg hb); have n1_ := Aside0.mk (ve_ HO357.out gb368 hg hb); have n2_ := Aside0.mk (ve_ HO363.out gb368 hg hb); have n3_ := Aside0.mk (ve_ HO366.out gb368 hg hb); have n4_ := Aside0.mk (bb_ BK341.out hb); have n5_ := Aside0.mk (bb_ BK342.out hb); have n6_ := Aside0.mk (bb_ BK359.out hb); have n7_ := Aside0.mk (bs_ hb); have n8_ := Aside0.mk (hbox); have n9_ := Aside0.mk ((ge_ hg : w.heap.size ≤ gb368)); have n10_ := Aside0.mk ((ge_ hg : w.heap.size ≤ gb368)); have n11_ := Aside0.mk ((by rw [hg]; exact Nat.ne_of_lt (blk_lt (g := gb341) (o := .cells #[.int .i64 a0_0, .slice A0_1 l0_1.length c0_1, .slice A0_2 l0_2.length c0_2] 25 (0, 0)) (by (with_reducible repeat (first | refine blk_drewN ?_ _ | refine blk_drew ?_ | refine blk_alloc ?_ _)); exact BK341.out)) : gb341 ≠ gb368)); have n12_ := Aside0.mk ((by rw [hg]; exact Nat.ne_of_gt (blk_lt (g := gb341) (o := .cells #[.int .i64 a0_0, .slice A0_1 l0_1.length c0_1, .slice A0_2 l0_2.length c0_2] 25 (0, 0)) (by (with_reducible repeat (first | refine blk_drewN ?_ _ | refine blk_drew ?_ | refine blk_alloc ?_ _)); exact BK341.out)) : gb368 ≠ gb341)); have n13_ := Aside0.mk ((by rw [hg]; exact Nat.ne_of_lt (blk_lt (g := gb342) (o := .cells #[.int .u32 a1_0, .slice A1_1 l1_1.length c1_1] 29 (0, 0)) (by (with_reducible repeat (first | refine blk_drewN ?_ _ | refine blk_drew ?_ | refine blk_alloc ?_ _)); exact BK342.out)) : gb342 ≠ gb368)); have n14_ := Aside0.mk ((by rw [hg]; exact Nat.ne_of_gt (blk_lt (g := gb342) (o := .cells #[.int .u32 a1_0, .slice A1_1 l1_1.length c1_1] 29 (0, 0)) (by (with_reducible repeat (first | refine blk_drewN ?_ _ | refine blk_drew ?_ | refine blk_alloc ?_ _)); exact BK342.out)) : gb368 ≠ gb342)); have n15_ := Aside0.mk ((by rw [hg]; exact Nat.ne_of_lt (blk_lt (g := gb359) (o := .cells #[.int .i64 t351, .slice Ao68 t352.length co68, .slice Ao69 t355.length co69] 25 (0, 0)) (by (with_reducible repeat (first | refine blk_drewN ?_ _ | refine blk_drew ?_ | refine blk_alloc ?_ _)); exact BK359.out)) : gb359 ≠ gb368)); have n16_ := Aside0.mk ((by rw [hg]; exact Nat.ne_of_gt (blk_lt (g := gb359) (o := .cells #[.int .i64 t351, .slice Ao68 t352.length co68, .slice Ao69 t355.length co69] 25 (0, 0)) (by (with_reducible repeat (first | refine blk_drewN ?_ _ | refine blk_drew ?_ | refine blk_alloc ?_ _)); exact BK359.out)) : gb368 ≠ gb359)); clear HO354 HO357 HO363 HO366 BK341 BK342 BK359 HB; have HO354 := n0_; have HO357 := n1_; have HO363 := n2_; have HO366 := n3_; have BK341 := n4_; have BK342 := n5_; have BK359 := n6_; have HB := n7_; have BK368 := n8_; have GW368 := n9_; have GE368 := n10_; have NB341_368 := n11_; have NB368_341 := n12_; have NB342_368 := n13_; have NB368_342 := n14_; have NB359_368 := n15_; have NB368_359 := n16_; clear n0_ n1_ n2_ n3_ n4_ n5_ n6_ n7_ n8_ n9_ n10_ n11_ n12_ n13_ n14_ n15_ n16_; clear hb hbox hg; have hnb75 := NB368_341.out; have hnc75 := NB341_368.out; have hnb76 := NB368_342.out; have hnc76 := NB342_368.out; have hnb77 := NB368_359.out; have hnc77 := NB359_368.out; have ⟨hcz78_0, hcz78_1, hcz78_2⟩ := cz3_ BK368.out; have ⟨hfz78_0, hfz78_1, hfz78_2⟩ := fz3_ BK368.out; obtain ⟨Ao79, co79, eo79⟩ := Kd.V_slice HO363.out; subst eo79; obtain ⟨Ao80, co80, eo80⟩ := Kd.V_slice HO366.out; subst eo80) | ((with_reducible refine gate_store (t := 25) (p := 9) rfl ?_); refine store_event (t := 25) (p := 9) (v := ?vo_w81) (w1 := (((w74.setCell ⟨gb368, 0, none⟩ (.int .i64 t360)).setCell ⟨gb368, 1, none⟩ (.slice Ao79 t361.length co79)).setCell ⟨gb368, 2, none⟩ (.slice Ao80 t364.length co80))) ?hg ?ho ?hn ?hr ?_; (case ho => rfl); (case hg => rfl); (case hn => rfl); (case hr => first | (go_simp; done) | (go_simp; rfl)); intro w81 hw; have n0_ : Aside0 (Kd.V k29 29 w81 w.heap.size (fun k_ => k_ ≠ gb341 ∧ k_ ≠ gb342 ∧ k_ ≠ gb359 ∧ k_ ≠ gb368) (.slice Ao68 t352.length co68) t352) := ⟨(by rw [hw]; exact (by (with_reducible repeat (first | apply Kd.V_alloc | apply Kd.V_drewN | apply Kd.V_drew)); exact Kd.V_mono (v3_ (g := gb368) (Kd.V_mono HO354.out (fun k_ hk => (⟨hk, hk.2⟩ : _ ∧ k_ ≠ gb368)))) (fun _ hk => ⟨hk.1.1.1, ⟨hk.1.1.2.1, ⟨hk.1.1.2.2, hk.1.2⟩⟩⟩)))⟩; have n1_ : Aside0 (Kd.V (Kd.slice 26 (Kd.int .u32)) 27 w81 w.heap.size (fun k_ => k_ ≠ gb341 ∧ k_ ≠ gb342 ∧ k_ ≠ gb359 ∧ k_ ≠ gb368) (.slice Ao69 t355.length co69) t355) := ⟨(by rw [hw]; exact (by (with_reducible repeat (first | apply Kd.V_alloc | apply Kd.V_drewN | apply Kd.V_drew)); exact Kd.V_mono (v3_ (g := gb368) (Kd.V_mono HO357.out (fun k_ hk => (⟨hk, hk.2⟩ : _ ∧ k_ ≠ gb368)))) (fun _ hk => ⟨hk.1.1.1, ⟨hk.1.1.2.1, ⟨hk.1.1.2.2, hk.1.2⟩⟩⟩)))⟩; have n2_ : Aside0 (Kd.V k29 29 w81 w.heap.size (fun k_ => k_ ≠ gb341 ∧ k_ ≠ gb342 ∧ k_ ≠ gb359 ∧ k_ ≠ gb368) (.slice Ao79 t361.length co79) t361) := ⟨(by rw [hw]; exact (by (with_reducible repeat (first | apply Kd.V_alloc | apply Kd.V_drewN | apply Kd.V_drew)); exact Kd.V_mono (v3_ (g := gb368) (Kd.V_mono HO363.out (fun k_ hk => (⟨hk, hk.2⟩ : _ ∧ k_ ≠ gb368)))) (fun _ hk => ⟨hk.1.1.1, ⟨hk.1.1.2.1, ⟨hk.1.1.2.2, hk.1.2⟩⟩⟩)))⟩; have n3_ : Aside0 (Kd.V (Kd.slice 26 (Kd.int .u32)) 27 w81 w.heap.size (fun k_ => k_ ≠ gb341 ∧ k_ ≠ gb342 ∧ k_ ≠ gb359 ∧ k_ ≠ gb368) (.slice Ao80 t364.length co80) t364) := ⟨(by rw [hw]; exact (by (with_reducible repeat (first | apply Kd.V_alloc | apply Kd.V_drewN | apply Kd.V_drew)); exact Kd.V_mono (v3_ (g := gb368) (Kd.V_mono HO366.out (fun k_ hk => (⟨hk, hk.2⟩ : _ ∧ k_ ≠ gb368)))) (fun _ hk => ⟨hk.1.1.1, ⟨hk.1.1.2.1, ⟨hk.1.1.2.2, hk.1.2⟩⟩⟩)))⟩; have n4_ : Aside0 (w81.heap[gb341]? = some (.cells #[.int .i64 a0_0, .slice A0_1 l0_1.length c0_1, .slice A0_2 l0_2.length c0_2] 25 (0, 0))) := ⟨(by rw [hw]; exact (bf3_ BK341.out NB341_368.out))⟩; have n5_ : Aside0 (w81.heap[gb342]? = some (.cells #[.int .u32 a1_0, .slice A1_1 l1_1.length c1_1] 29 (0, 0))) := ⟨(by rw [hw]; exact (bf3_ BK342.out NB342_368.out))⟩; have n6_ : Aside0 (w81.heap[gb359]? = some (.cells #[.int .i64 t351, .slice Ao68 t352.length co68, .slice Ao69 t355.length co69] 25 (0, 0))) := ⟨(by rw [hw]; exact (bf3_ BK359.out NB359_368.out))⟩; have n7_ : Aside0 (w81.heap[gb368]? = some (.cells #[.int .i64 t360, .slice Ao79 t361.length co79, .slice Ao80 t364.length co80] 25 (0, 0))) := ⟨(by rw [hw]; exact (bp3_ BK368.out))⟩; have n8_ : Aside0 (Below w.heap.size w w81) := ⟨(by rw [hw]; exact (by repeat (first | (with_reducible first | exact HB.out | apply below_alloc | apply pw_below_drewN | apply below_drew1 | refine below_set ?_ GE341.out | refine below_set ?_ GE342.out | refine below_set ?_ GE359.out | refine below_set ?_ GE368.out) | exact HB.out)))⟩; clear hw HO354 HO357 HO363 HO366 BK341 BK342 BK359 BK368 HB; have HO354 := n0_; have HO357 := n1_; have HO363 := n2_; have HO366 := n3_; have BK341 := n4_; have BK342 := n5_; have BK359 := n6_; have BK368 := n7_; have HB := n8_; clear n0_ n1_ n2_ n3_ n4_ n5_ n6_ n7_ n8_; have ⟨hcz82_0, hcz82_1, hcz82_2⟩ := cz3_ BK341.out; have ⟨hfz82_0, hfz82_1, hfz82_2⟩ := fz3_ BK341.out) | ((with_reducible refine gate_callee (f := 14) rfl ?_); refine goesL_ (some 65) rfl rfl Try.func14 (by kernel_rfl) rfl #[.agg #[.int .i64 a0_0, .slice A0_1 l0_1.length c0_1, .slice A0_2 l0_2.length c0_2], .int .i64 a2] rfl (by (try simp only [List.map_toArray, List.map_cons, List.map_nil]); first | done | rfl | (simp only [List.length_drop, List.length_take]; rfl)) ?_; (with_reducible refine (net_Take.calls a0_0 (fun k_ => k_ < w.heap.size) _ _ l0_1 (fun k_ => k_ < w.heap.size) _ _ l0_2 a2 t369 t370 t373 t376 t377 t380 _ ?side1 ?side2 A44.out).mono ?_); (case side1 => exact Kd.V_mk HC0_1.out (Kd.F_below (Kd.C_F k29_heap HR0_1.out) (by repeat (first | (with_reducible first | exact HB.out | apply below_alloc | apply pw_below_drewN | apply below_drew1 | refine below_set ?_ GE341.out | refine below_set ?_ GE342.out | refine below_set ?_ GE359.out | refine below_set ?_ GE368.out) | exact HB.out)))); (case side2 => exact Kd.V_mk HC0_2.out (Kd.F_below (Kd.C_F (Kd.heap_slice 26 (Kd.heap_int .u32)) HR0_2.out) (by repeat (first | (with_reducible first | exact HB.out | apply below_alloc | apply pw_below_drewN | apply below_drew1 | refine below_set ?_ GE341.out | refine below_set ?_ GE342.out | refine below_set ?_ GE359.out | refine below_set ?_ GE368.out) | exact HB.out)))); rintro e w83 ⟨v371, v374, v378, rfl, ho0, ho1, ho2, hb⟩; refine ⟨_, rfl, ?_⟩; have n0_ := Aside0.mk (vb_ HO354.out hb); have n1_ := Aside0.mk (vb_ HO357.out hb); have n2_ := Aside0.mk (vb_ HO363.out hb); have n3_ := Aside0.mk (vb_ HO366.out hb); have n4_ := Aside0.mk (Kd.V_lower (Kd.V_mono (ok' := fun k_ => k_ ≠ gb341 ∧ k_ ≠ gb342 ∧ k_ ≠ gb359 ∧ k_ ≠ gb368) ho0 (fun k_ hk_ => ⟨Or.elim hk_ (fun hs_ => Or.elim hs_ (fun hs_ => fun e_ => Nat.not_le.2 hs_ (by rw [e_]; exact GW341.out)) (fun hs_ => fun e_ => Nat.not_le.2 hs_ (by rw [e_]; exact GW341.out))) (fun hn_ => (fb_ BK341.out k_ hn_)), Or.elim hk_ (fun hs_ => Or.elim hs_ (fun hs_ => fun e_ => Nat.not_le.2 hs_ (by rw [e_]; exact GW342.out)) (fun hs_ => fun e_ => Nat.not_le.2 hs_ (by rw [e_]; exact GW342.out))) (fun hn_ => (fb_ BK342.out k_ hn_)), Or.elim hk_ (fun hs_ => Or.elim hs_ (fun hs_ => fun e_ => Nat.not_le.2 hs_ (by rw [e_]; exact GW359.out)) (fun hs_ => fun e_ => Nat.not_le.2 hs_ (by rw [e_]; exact GW359.out))) (fun hn_ => (fb_ BK359.out k_ hn_)), Or.elim hk_ (fun hs_ => Or.elim hs_ (fun hs_ => fun e_ => Nat.not_le.2 hs_ (by rw [e_]; exact GW368.out)) (fun hs_ => fun e_ => Nat.not_le.2 hs_ (by rw [e_]; exact GW368.out))) (fun hn_ => (fb_ BK368.out k_ hn_))⟩)) (below_size (by repeat (first | (with_reducible first | exact HB.out | apply below_alloc | apply pw_below_drewN | apply below_drew1 | refine below_set ?_ GE341.out | refine below_set ?_ GE342.out | refine below_set ?_ GE359.out | refine below_set ?_ GE368.out) | exact HB.out)))); have n5_ := Aside0.mk (Kd.V_lower (Kd.V_mono (ok' := fun k_ => k_ ≠ gb341 ∧ k_ ≠ gb342 ∧ k_ ≠ gb359 ∧ k_ ≠ gb368) ho1 (fun k_ hk_ => ⟨Or.elim hk_ (fun hs_ => Or.elim hs_ (fun hs_ => fun e_ => Nat.not_le.2 hs_ (by rw [e_]; exact GW341.out)) (fun hs_ => fun e_ => Nat.not_le.2 hs_ (by rw [e_]; exact GW341.out))) (fun hn_ => (fb_ BK341.out k_ hn_)), Or.elim hk_ (fun hs_ => Or.elim hs_ (fun hs_ => fun e_ => Nat.not_le.2 hs_ (by rw [e_]; exact GW342.out)) (fun hs_ => fun e_ => Nat.not_le.2 hs_ (by rw [e_]; exact GW342.out))) (fun hn_ => (fb_ BK342.out k_ hn_)), Or.elim hk_ (fun hs_ => Or.elim hs_ (fun hs_ => fun e_ => Nat.not_le.2 hs_ (by rw [e_]; exact GW359.out)) (fun hs_ => fun e_ => Nat.not_le.2 hs_ (by rw [e_]; exact GW359.out))) (fun hn_ => (fb_ BK359.out k_ hn_)), Or.elim hk_ (fun hs_ => Or.elim hs_ (fun hs_ => fun e_ => Nat.not_le.2 hs_ (by rw [e_]; exact GW368.out)) (fun hs_ => fun e_ => Nat.not_le.2 hs_ (by rw [e_]; exact GW368.out))) (fun hn_ => (fb_ BK368.out k_ hn_))⟩)) (below_size (by repeat (first | (with_reducible first | exact HB.out | apply below_alloc | apply pw_below_drewN | apply below_drew1 | refine below_set ?_ GE341.out | refine below_set ?_ GE342.out | refine below_set ?_ GE359.out | refine below_set ?_ GE368.out) | exact HB.out)))); have n6_ := Aside0.mk (Kd.V_lower (Kd.V_mono (ok' := fun k_ => k_ ≠ gb341 ∧ k_ ≠ gb342 ∧ k_ ≠ gb359 ∧ k_ ≠ gb368) ho2 (fun k_ hk_ => ⟨Or.elim hk_ (fun hs_ => Or.elim hs_ (fun hs_ => fun e_ => Nat.not_le.2 hs_ (by rw [e_]; exact GW341.out)) (fun hs_ => fun e_ => Nat.not_le.2 hs_ (by rw [e_]; exact GW341.out))) (fun hn_ => (fb_ BK341.out k_ hn_)), Or.elim hk_ (fun hs_ => Or.elim hs_ (fun hs_ => fun e_ => Nat.not_le.2 hs_ (by rw [e_]; exact GW342.out)) (fun hs_ => fun e_ => Nat.not_le.2 hs_ (by rw [e_]; exact GW342.out))) (fun hn_ => (fb_ BK342.out k_ hn_)), Or.elim hk_ (fun hs_ => Or.elim hs_ (fun hs_ => fun e_ => Nat.not_le.2 hs_ (by rw [e_]; exact GW359.out)) (fun hs_ => fun e_ => Nat.not_le.2 hs_ (by rw [e_]; exact GW359.out))) (fun hn_ => (fb_ BK359.out k_ hn_)), Or.elim hk_ (fun hs_ => Or.elim hs_ (fun hs_ => fun e_ => Nat.not_le.2 hs_ (by rw [e_]; exact GW368.out)) (fun hs_ => fun e_ => Nat.not_le.2 hs_ (by rw [e_]; exact GW368.out))) (fun hn_ => (fb_ BK368.out k_ hn_))⟩)) (below_size (by repeat (first | (with_reducible first | exact HB.out | apply below_alloc | apply pw_below_drewN | apply below_drew1 | refine below_set ?_ GE341.out | refine below_set ?_ GE342.out | refine below_set ?_ GE359.out | refine below_set ?_ GE368.out) | exact HB.out)))); have n7_ := Aside0.mk (bb_ BK341.out hb); have n8_ := Aside0.mk (bb_ BK342.out hb); have n9_ := Aside0.mk (bb_ BK359.out hb); have n10_ := Aside0.mk (bb_ BK368.out hb); have n11_ := Aside0.mk (bs_ hb); clear HO354 HO357 HO363 HO366 BK341 BK342 BK359 BK368 HB; have HO354 := n0_; have HO357 := n1_; have HO363 := n2_; have HO366 := n3_; have HO372 := n4_; have HO375 := n5_; have HO379 := n6_; have BK341 := n7_; have BK342 := n8_; have BK359 := n9_; have BK368 := n10_; have HB := n11_; clear n0_ n1_ n2_ n3_ n4_ n5_ n6_ n7_ n8_ n9_ n10_ n11_; (try clear hb); (try clear hb2); (try clear hk); (try clear hi); (try clear ho0); (try clear ho1); (try clear ho2)) | ((with_reducible refine gate_dst (N := 11) rfl ?_); (try (refine gate_guard (by rfl) ?_; dsimp only)); refine box_event ?hg (N := 11) ?hd (cs := #[.int .i64 0, .slice none 0 0, .slice none 0 0]) (t := 25) ?hr ?_; (case hd => rfl); (case hg => rfl); (case hr => first | (go_simp; done) | (go_simp; rfl)); intro gb381 hg w84 hbox hb; have n0_ := Aside0.mk (ve_ HO354.out gb381 hg hb); have n1_ := Aside0.mk (ve_ HO357.out gb381 hg hb); have n2_ := Aside0.mk (ve_ HO363.out gb381 hg hb); have n3_ := Aside0.mk (ve_ HO366.out gb381 hg hb); have n4_ := Aside0.mk (ve_ HO372.out gb381 hg hb); have n5_ := Aside0.mk (ve_ HO375.out gb381 hg hb); have n6_ := Aside0.mk (ve_ HO379.out gb381 hg hb); have n7_ := Aside0.mk (bb_ BK341.out hb); have n8_ := Aside0.mk (bb_ BK342.out hb); have n9_ := Aside0.mk (bb_ BK359.out hb); have n10_ := Aside0.mk (bb_ BK368.out hb); have n11_ := Aside0.mk (bs_ hb); have n12_ := Aside0.mk (hbox); have n13_ := Aside0.mk ((ge_ hg : w.heap.size ≤ gb381)); have n14_ := Aside0.mk ((ge_ hg : w.heap.size ≤ gb381)); have n15_ := Aside0.mk ((by rw [hg]; exact Nat.ne_of_lt (blk_lt (g := gb341) (o := .cells #[.int .i64 a0_0, .slice A0_1 l0_1.length c0_1, .slice A0_2 l0_2.length c0_2] 25 (0, 0)) (by (with_reducible repeat (first | refine blk_drewN ?_ _ | refine blk_drew ?_ | refine blk_alloc ?_ _)); exact BK341.out)) : gb341 ≠ gb381)); have n16_ := Aside0.mk ((by rw [hg]; exact Nat.ne_of_gt (blk_lt (g := gb341) (o := .cells #[.int .i64 a0_0, .slice A0_1 l0_1.length c0_1, .slice A0_2 l0_2.length c0_2] 25 (0, 0)) (by (with_reducible repeat (first | refine blk_drewN ?_ _ | refine blk_drew ?_ | refine blk_alloc ?_ _)); exact BK341.out)) : gb381 ≠ gb341)); have n17_ := Aside0.mk ((by rw [hg]; exact Nat.ne_of_lt (blk_lt (g := gb342) (o := .cells #[.int .u32 a1_0, .slice A1_1 l1_1.length c1_1] 29 (0, 0)) (by (with_reducible repeat (first | refine blk_drewN ?_ _ | refine blk_drew ?_ | refine blk_alloc ?_ _)); exact BK342.out)) : gb342 ≠ gb381)); have n18_ := Aside0.mk ((by rw [hg]; exact Nat.ne_of_gt (blk_lt (g := gb342) (o := .cells #[.int .u32 a1_0, .slice A1_1 l1_1.length c1_1] 29 (0, 0)) (by (with_reducible repeat (first | refine blk_drewN ?_ _ | refine blk_drew ?_ | refine blk_alloc ?_ _)); exact BK342.out)) : gb381 ≠ gb342)); have n19_ := Aside0.mk ((by rw [hg]; exact Nat.ne_of_lt (blk_lt (g := gb359) (o := .cells #[.int .i64 t351, .slice Ao68 t352.length co68, .slice Ao69 t355.length co69] 25 (0, 0)) (by (with_reducible repeat (first | refine blk_drewN ?_ _ | refine blk_drew ?_ | refine blk_alloc ?_ _)); exact BK359.out)) : gb359 ≠ gb381)); have n20_ := Aside0.mk ((by rw [hg]; exact Nat.ne_of_gt (blk_lt (g := gb359) (o := .cells #[.int .i64 t351, .slice Ao68 t352.length co68, .slice Ao69 t355.length co69] 25 (0, 0)) (by (with_reducible repeat (first | refine blk_drewN ?_ _ | refine blk_drew ?_ | refine blk_alloc ?_ _)); exact BK359.out)) : gb381 ≠ gb359)); have n21_ := Aside0.mk ((by rw [hg]; exact Nat.ne_of_lt (blk_lt (g := gb368) (o := .cells #[.int .i64 t360, .slice Ao79 t361.length co79, .slice Ao80 t364.length co80] 25 (0, 0)) (by (with_reducible repeat (first | refine blk_drewN ?_ _ | refine blk_drew ?_ | refine blk_alloc ?_ _)); exact BK368.out)) : gb368 ≠ gb381)); have n22_ := Aside0.mk ((by rw [hg]; exact Nat.ne_of_gt (blk_lt (g := gb368) (o := .cells #[.int .i64 t360, .slice Ao79 t361.length co79, .slice Ao80 t364.length co80] 25 (0, 0)) (by (with_reducible repeat (first | refine blk_drewN ?_ _ | refine blk_drew ?_ | refine blk_alloc ?_ _)); exact BK368.out)) : gb381 ≠ gb368)); clear HO354 HO357 HO363 HO366 HO372 HO375 HO379 BK341 BK342 BK359 BK368 HB; have HO354 := n0_; have HO357 := n1_; have HO363 := n2_; have HO366 := n3_; have HO372 := n4_; have HO375 := n5_; have HO379 := n6_; have BK341 := n7_; have BK342 := n8_; have BK359 := n9_; have BK368 := n10_; have HB := n11_; have BK381 := n12_; have GW381 := n13_; have GE381 := n14_; have NB341_381 := n15_; have NB381_341 := n16_; have NB342_381 := n17_; have NB381_342 := n18_; have NB359_381 := n19_; have NB381_359 := n20_; have NB368_381 := n21_; have NB381_368 := n22_; clear n0_ n1_ n2_ n3_ n4_ n5_ n6_ n7_ n8_ n9_ n10_ n11_ n12_ n13_ n14_ n15_ n16_ n17_ n18_ n19_ n20_ n21_ n22_; clear hb hbox hg) | ((with_reducible refine gate_dst (N := 12) rfl ?_); (try (refine gate_guard (by rfl) ?_; dsimp only)); refine box_event ?hg (N := 12) ?hd (cs := #[.int .u32 0, .slice none 0 0]) (t := 29) ?hr ?_; (case hd => rfl); (case hg => rfl); (case hr => first | (go_simp; done) | (go_simp; rfl)); intro gb382 hg w85 hbox hb; have n0_ := Aside0.mk (ve_ HO354.out gb382 hg hb); have n1_ := Aside0.mk (ve_ HO357.out gb382 hg hb); have n2_ := Aside0.mk (ve_ HO363.out gb382 hg hb); have n3_ := Aside0.mk (ve_ HO366.out gb382 hg hb); have n4_ := Aside0.mk (ve_ HO372.out gb382 hg hb); have n5_ := Aside0.mk (ve_ HO375.out gb382 hg hb); have n6_ := Aside0.mk (ve_ HO379.out gb382 hg hb); have n7_ := Aside0.mk (bb_ BK341.out hb); have n8_ := Aside0.mk (bb_ BK342.out hb); have n9_ := Aside0.mk (bb_ BK359.out hb); have n10_ := Aside0.mk (bb_ BK368.out hb); have n11_ := Aside0.mk (bb_ BK381.out hb); have n12_ := Aside0.mk (bs_ hb); have n13_ := Aside0.mk (hbox); have n14_ := Aside0.mk ((ge_ hg : w.heap.size ≤ gb382)); have n15_ := Aside0.mk ((ge_ hg : w.heap.size ≤ gb382)); have n16_ := Aside0.mk ((by rw [hg]; exact Nat.ne_of_lt (blk_lt (g := gb341) (o := .cells #[.int .i64 a0_0, .slice A0_1 l0_1.length c0_1, .slice A0_2 l0_2.length c0_2] 25 (0, 0)) (by (with_reducible repeat (first | refine blk_drewN ?_ _ | refine blk_drew ?_ | refine blk_alloc ?_ _)); exact BK341.out)) : gb341 ≠ gb382)); have n17_ := Aside0.mk ((by rw [hg]; exact Nat.ne_of_gt (blk_lt (g := gb341) (o := .cells #[.int .i64 a0_0, .slice A0_1 l0_1.length c0_1, .slice A0_2 l0_2.length c0_2] 25 (0, 0)) (by (with_reducible repeat (first | refine blk_drewN ?_ _ | refine blk_drew ?_ | refine blk_alloc ?_ _)); exact BK341.out)) : gb382 ≠ gb341)); have n18_ := Aside0.mk ((by rw [hg]; exact Nat.ne_of_lt (blk_lt (g := gb342) (o := .cells #[.int .u32 a1_0, .slice A1_1 l1_1.length c1_1] 29 (0, 0)) (by (with_reducible repeat (first | refine blk_drewN ?_ _ | refine blk_drew ?_ | refine blk_alloc ?_ _)); exact BK342.out)) : gb342 ≠ gb382)); have n19_ := Aside0.mk ((by rw [hg]; exact Nat.ne_of_gt (blk_lt (g := gb342) (o := .cells #[.int .u32 a1_0, .slice A1_1 l1_1.length c1_1] 29 (0, 0)) (by (with_reducible repeat (first | refine blk_drewN ?_ _ | refine blk_drew ?_ | refine blk_alloc ?_ _)); exact BK342.out)) : gb382 ≠ gb342)); have n20_ := Aside0.mk ((by rw [hg]; exact Nat.ne_of_lt (blk_lt (g := gb359) (o := .cells #[.int .i64 t351, .slice Ao68 t352.length co68, .slice Ao69 t355.length co69] 25 (0, 0)) (by (with_reducible repeat (first | refine blk_drewN ?_ _ | refine blk_drew ?_ | refine blk_alloc ?_ _)); exact BK359.out)) : gb359 ≠ gb382)); have n21_ := Aside0.mk ((by rw [hg]; exact Nat.ne_of_gt (blk_lt (g := gb359) (o := .cells #[.int .i64 t351, .slice Ao68 t352.length co68, .slice Ao69 t355.length co69] 25 (0, 0)) (by (with_reducible repeat (first | refine blk_drewN ?_ _ | refine blk_drew ?_ | refine blk_alloc ?_ _)); exact BK359.out)) : gb382 ≠ gb359)); have n22_ := Aside0.mk ((by rw [hg]; exact Nat.ne_of_lt (blk_lt (g := gb368) (o := .cells #[.int .i64 t360, .slice Ao79 t361.length co79, .slice Ao80 t364.length co80] 25 (0, 0)) (by (with_reducible repeat (first | refine blk_drewN ?_ _ | refine blk_drew ?_ | refine blk_alloc ?_ _)); exact BK368.out)) : gb368 ≠ gb382)); have n23_ := Aside0.mk ((by rw [hg]; exact Nat.ne_of_gt (blk_lt (g := gb368) (o := .cells #[.int .i64 t360, .slice Ao79 t361.length co79, .slice Ao80 t364.length co80] 25 (0, 0)) (by (with_reducible repeat (first | refine blk_drewN ?_ _ | refine blk_drew ?_ | refine blk_alloc ?_ _)); exact BK368.out)) : gb382 ≠ gb368)); have n24_ := Aside0.mk ((by rw [hg]; exact Nat.ne_of_lt (blk_lt (g := gb381) (o := .cells #[.int .i64 0, .slice none 0 0, .slice none 0 0] 25 (0, 0)) (by (with_reducible repeat (first | refine blk_drewN ?_ _ | refine blk_drew ?_ | refine blk_alloc ?_ _)); exact BK381.out)) : gb381 ≠ gb382)); have n25_ := Aside0.mk ((by rw [hg]; exact Nat.ne_of_gt (blk_lt (g := gb381) (o := .cells #[.int .i64 0, .slice none 0 0, .slice none 0 0] 25 (0, 0)) (by (with_reducible repeat (first | refine blk_drewN ?_ _ | refine blk_drew ?_ | refine blk_alloc ?_ _)); exact BK381.out)) : gb382 ≠ gb381)); clear HO354 HO357 HO363 HO366 HO372 HO375 HO379 BK341 BK342 BK359 BK368 BK381 HB; have HO354 := n0_; have HO357 := n1_; have HO363 := n2_; have HO366 := n3_; have HO372 := n4_; have HO375 := n5_; have HO379 := n6_; have BK341 := n7_; have BK342 := n8_; have BK359 := n9_; have BK368 := n10_; have BK381 := n11_; have HB := n12_; have BK382 := n13_; have GW382 := n14_; have GE382 := n15_; have NB341_382 := n16_; have NB382_341 := n17_; have NB342_382 := n18_; have NB382_342 := n19_; have NB359_382 := n20_; have NB382_359 := n21_; have NB368_382 := n22_; have NB382_368 := n23_; have NB381_382 := n24_; have NB382_381 := n25_; clear n0_ n1_ n2_ n3_ n4_ n5_ n6_ n7_ n8_ n9_ n10_ n11_ n12_ n13_ n14_ n15_ n16_ n17_ n18_ n19_ n20_ n21_ n22_ n23_ n24_ n25_; clear hb hbox hg; have hnb86 := NB381_341.out; have hnc86 := NB341_381.out; have hnb87 := NB381_342.out; have hnc87 := NB342_381.out; have hnb88 := NB381_359.out; have hnc88 := NB359_381.out; have hnb89 := NB381_368.out; have hnc89 := NB368_381.out; have hnb90 := NB381_382.out; have hnc90 := NB382_381.out; have ⟨hcz91_0, hcz91_1, hcz91_2⟩ := cz3_ BK381.out; have ⟨hfz91_0, hfz91_1, hfz91_2⟩ := fz3_ BK381.out; obtain ⟨Ao92, co92, eo92⟩ := Kd.V_slice HO372.out; subst eo92; obtain ⟨Ao93, co93, eo93⟩ := Kd.V_slice HO375.out; subst eo93) | ((with_reducible refine gate_store (t := 25) (p := 11) rfl ?_); refine store_event (t := 25) (p := 11) (v := ?vo_w94) (w1 := (((w85.setCell ⟨gb381, 0, none⟩ (.int .i64 t369)).setCell ⟨gb381, 1, none⟩ (.slice Ao92 t370.length co92)).setCell ⟨gb381, 2, none⟩ (.slice Ao93 t373.length co93))) ?hg ?ho ?hn ?hr ?_; (case ho => rfl); (case hg => rfl); (case hn => rfl); (case hr => first | (go_simp; done) | (go_simp; rfl)); intro w94 hw; have n0_ : Aside0 (Kd.V k29 29 w94 w.heap.size (fun k_ => k_ ≠ gb341 ∧ k_ ≠ gb342 ∧ k_ ≠ gb359 ∧ k_ ≠ gb368 ∧ k_ ≠ gb381 ∧ k_ ≠ gb382) (.slice Ao68 t352.length co68) t352) := ⟨(by rw [hw]; exact (by (with_reducible repeat (first | apply Kd.V_alloc | apply Kd.V_drewN | apply Kd.V_drew)); exact Kd.V_mono (v3_ (g := gb381) (Kd.V_mono HO354.out (fun k_ hk => (⟨hk, hk.1.2⟩ : _ ∧ k_ ≠ gb381)))) (fun _ hk => ⟨hk.1.1.1.1, ⟨hk.1.1.1.2.1, ⟨hk.1.1.1.2.2.1, ⟨hk.1.1.1.2.2.2, ⟨hk.1.1.2, hk.1.2⟩⟩⟩⟩⟩)))⟩; have n1_ : Aside0 (Kd.V (Kd.slice 26 (Kd.int .u32)) 27 w94 w.heap.size (fun k_ => k_ ≠ gb341 ∧ k_ ≠ gb342 ∧ k_ ≠ gb359 ∧ k_ ≠ gb368 ∧ k_ ≠ gb381 ∧ k_ ≠ gb382) (.slice Ao69 t355.length co69) t355) := ⟨(by rw [hw]; exact (by (with_reducible repeat (first | apply Kd.V_alloc | apply Kd.V_drewN | apply Kd.V_drew)); exact Kd.V_mono (v3_ (g := gb381) (Kd.V_mono HO357.out (fun k_ hk => (⟨hk, hk.1.2⟩ : _ ∧ k_ ≠ gb381)))) (fun _ hk => ⟨hk.1.1.1.1, ⟨hk.1.1.1.2.1, ⟨hk.1.1.1.2.2.1, ⟨hk.1.1.1.2.2.2, ⟨hk.1.1.2, hk.1.2⟩⟩⟩⟩⟩)))⟩; have n2_ : Aside0 (Kd.V k29 29 w94 w.heap.size (fun k_ => k_ ≠ gb341 ∧ k_ ≠ gb342 ∧ k_ ≠ gb359 ∧ k_ ≠ gb368 ∧ k_ ≠ gb381 ∧ k_ ≠ gb382) (.slice Ao79 t361.length co79) t361) := ⟨(by rw [hw]; exact (by (with_reducible repeat (first | apply Kd.V_alloc | apply Kd.V_drewN | apply Kd.V_drew)); exact Kd.V_mono (v3_ (g := gb381) (Kd.V_mono HO363.out (fun k_ hk => (⟨hk, hk.1.2⟩ : _ ∧ k_ ≠ gb381)))) (fun _ hk => ⟨hk.1.1.1.1, ⟨hk.1.1.1.2.1, ⟨hk.1.1.1.2.2.1, ⟨hk.1.1.1.2.2.2, ⟨hk.1.1.2, hk.1.2⟩⟩⟩⟩⟩)))⟩; have n3_ : Aside0 (Kd.V (Kd.slice 26 (Kd.int .u32)) 27 w94 w.heap.size (fun k_ => k_ ≠ gb341 ∧ k_ ≠ gb342 ∧ k_ ≠ gb359 ∧ k_ ≠ gb368 ∧ k_ ≠ gb381 ∧ k_ ≠ gb382) (.slice Ao80 t364.length co80) t364) := ⟨(by rw [hw]; exact (by (with_reducible repeat (first | apply Kd.V_alloc | apply Kd.V_drewN | apply Kd.V_drew)); exact Kd.V_mono (v3_ (g := gb381) (Kd.V_mono HO366.out (fun k_ hk => (⟨hk, hk.1.2⟩ : _ ∧ k_ ≠ gb381)))) (fun _ hk => ⟨hk.1.1.1.1, ⟨hk.1.1.1.2.1, ⟨hk.1.1.1.2.2.1, ⟨hk.1.1.1.2.2.2, ⟨hk.1.1.2, hk.1.2⟩⟩⟩⟩⟩)))⟩; have n4_ : Aside0 (Kd.V k29 29 w94 w.heap.size (fun k_ => k_ ≠ gb341 ∧ k_ ≠ gb342 ∧ k_ ≠ gb359 ∧ k_ ≠ gb368 ∧ k_ ≠ gb381 ∧ k_ ≠ gb382) (.slice Ao92 t370.length co92) t370) := ⟨(by rw [hw]; exact (by (with_reducible repeat (first | apply Kd.V_alloc | apply Kd.V_drewN | apply Kd.V_drew)); exact Kd.V_mono (v3_ (g := gb381) (Kd.V_mono HO372.out (fun k_ hk => (⟨hk, hk.1.2⟩ : _ ∧ k_ ≠ gb381)))) (fun _ hk => ⟨hk.1.1.1.1, ⟨hk.1.1.1.2.1, ⟨hk.1.1.1.2.2.1, ⟨hk.1.1.1.2.2.2, ⟨hk.1.1.2, hk.1.2⟩⟩⟩⟩⟩)))⟩; have n5_ : Aside0 (Kd.V (Kd.slice 26 (Kd.int .u32)) 27 w94 w.heap.size (fun k_ => k_ ≠ gb341 ∧ k_ ≠ gb342 ∧ k_ ≠ gb359 ∧ k_ ≠ gb368 ∧ k_ ≠ gb381 ∧ k_ ≠ gb382) (.slice Ao93 t373.length co93) t373) := ⟨(by rw [hw]; exact (by (with_reducible repeat (first | apply Kd.V_alloc | apply Kd.V_drewN | apply Kd.V_drew)); exact Kd.V_mono (v3_ (g := gb381) (Kd.V_mono HO375.out (fun k_ hk => (⟨hk, hk.1.2⟩ : _ ∧ k_ ≠ gb381)))) (fun _ hk => ⟨hk.1.1.1.1, ⟨hk.1.1.1.2.1, ⟨hk.1.1.1.2.2.1, ⟨hk.1.1.1.2.2.2, ⟨hk.1.1.2, hk.1.2⟩⟩⟩⟩⟩)))⟩; have n6_ : Aside0 (Kd.V (Kd.int .u32) 26 w94 w.heap.size (fun k_ => k_ ≠ gb341 ∧ k_ ≠ gb342 ∧ k_ ≠ gb359 ∧ k_ ≠ gb368 ∧ k_ ≠ gb381 ∧ k_ ≠ gb382) v378 t377) := ⟨(by rw [hw]; exact (by (with_reducible repeat (first | apply Kd.V_alloc | apply Kd.V_drewN | apply Kd.V_drew)); exact Kd.V_mono (v3_ (g := gb381) (Kd.V_mono HO379.out (fun k_ hk => (⟨hk, hk.1.2⟩ : _ ∧ k_ ≠ gb381)))) (fun _ hk => ⟨hk.1.1.1.1, ⟨hk.1.1.1.2.1, ⟨hk.1.1.1.2.2.1, ⟨hk.1.1.1.2.2.2, ⟨hk.1.1.2, hk.1.2⟩⟩⟩⟩⟩)))⟩; have n7_ : Aside0 (w94.heap[gb341]? = some (.cells #[.int .i64 a0_0, .slice A0_1 l0_1.length c0_1, .slice A0_2 l0_2.length c0_2] 25 (0, 0))) := ⟨(by rw [hw]; exact (bf3_ BK341.out NB341_381.out))⟩; have n8_ : Aside0 (w94.heap[gb342]? = some (.cells #[.int .u32 a1_0, .slice A1_1 l1_1.length c1_1] 29 (0, 0))) := ⟨(by rw [hw]; exact (bf3_ BK342.out NB342_381.out))⟩; have n9_ : Aside0 (w94.heap[gb359]? = some (.cells #[.int .i64 t351, .slice Ao68 t352.length co68, .slice Ao69 t355.length co69] 25 (0, 0))) := ⟨(by rw [hw]; exact (bf3_ BK359.out NB359_381.out))⟩; have n10_ : Aside0 (w94.heap[gb368]? = some (.cells #[.int .i64 t360, .slice Ao79 t361.length co79, .slice Ao80 t364.length co80] 25 (0, 0))) := ⟨(by rw [hw]; exact (bf3_ BK368.out NB368_381.out))⟩; have n11_ : Aside0 (w94.heap[gb381]? = some (.cells #[.int .i64 t369, .slice Ao92 t370.length co92, .slice Ao93 t373.length co93] 25 (0, 0))) := ⟨(by rw [hw]; exact (bp3_ BK381.out))⟩; have n12_ : Aside0 (w94.heap[gb382]? = some (.cells #[.int .u32 0, .slice none 0 0] 29 (0, 0))) := ⟨(by rw [hw]; exact (bf3_ BK382.out NB382_381.out))⟩; have n13_ : Aside0 (Below w.heap.size w w94) := ⟨(by rw [hw]; exact (by repeat (first | (with_reducible first | exact HB.out | apply below_alloc | apply pw_below_drewN | apply below_drew1 | refine below_set ?_ GE341.out | refine below_set ?_ GE342.out | refine below_set ?_ GE359.out | refine below_set ?_ GE368.out | refine below_set ?_ GE381.out | refine below_set ?_ GE382.out) | exact HB.out)))⟩; clear hw HO354 HO357 HO363 HO366 HO372 HO375 HO379 BK341 BK342 BK359 BK368 BK381 BK382 HB; have HO354 := n0_; have HO357 := n1_; have HO363 := n2_; have HO366 := n3_; have HO372 := n4_; have HO375 := n5_; have HO379 := n6_; have BK341 := n7_; have BK342 := n8_; have BK359 := n9_; have BK368 := n10_; have BK381 := n11_; have BK382 := n12_; have HB := n13_; clear n0_ n1_ n2_ n3_ n4_ n5_ n6_ n7_ n8_ n9_ n10_ n11_ n12_ n13_; have hnb95 := NB382_341.out; have hnc95 := NB341_382.out; have hnb96 := NB382_342.out; have hnc96 := NB342_382.out; have hnb97 := NB382_359.out; have hnc97 := NB359_382.out; have hnb98 := NB382_368.out; have hnc98 := NB368_382.out; have ⟨hcz99_0, hcz99_1⟩ := cz2_ BK382.out; have ⟨hfz99_0, hfz99_1⟩ := fz2_ BK382.out; obtain ⟨Ao100, co100, eo100⟩ := Kd.V_slice HO379.out; subst eo100) | ((with_reducible refine gate_store (t := 29) (p := 12) rfl ?_); refine store_event (t := 29) (p := 12) (v := ?vo_w101) (w1 := ((w94.setCell ⟨gb382, 0, none⟩ (.int .u32 t376)).setCell ⟨gb382, 1, none⟩ (.slice Ao100 t377.length co100))) ?hg ?ho ?hn ?hr ?_; (case ho => rfl); (case hg => rfl); (case hn => rfl); (case hr => first | (go_simp; done) | (go_simp; rfl)); intro w101 hw; have n0_ : Aside0 (Kd.V k29 29 w101 w.heap.size (fun k_ => k_ ≠ gb341 ∧ k_ ≠ gb342 ∧ k_ ≠ gb359 ∧ k_ ≠ gb368 ∧ k_ ≠ gb381 ∧ k_ ≠ gb382) (.slice Ao68 t352.length co68) t352) := ⟨(by rw [hw]; exact (by (with_reducible repeat (first | apply Kd.V_alloc | apply Kd.V_drewN | apply Kd.V_drew)); exact Kd.V_mono (v2_ (g := gb382) (Kd.V_mono HO354.out (fun k_ hk => (⟨hk, hk.2.2.2.2.2⟩ : _ ∧ k_ ≠ gb382)))) (fun _ hk => ⟨hk.1.1, ⟨hk.1.2.1, ⟨hk.1.2.2.1, ⟨hk.1.2.2.2.1, ⟨hk.1.2.2.2.2.1, hk.1.2.2.2.2.2⟩⟩⟩⟩⟩)))⟩; have n1_ : Aside0 (Kd.V (Kd.slice 26 (Kd.int .u32)) 27 w101 w.heap.size (fun k_ => k_ ≠ gb341 ∧ k_ ≠ gb342 ∧ k_ ≠ gb359 ∧ k_ ≠ gb368 ∧ k_ ≠ gb381 ∧ k_ ≠ gb382) (.slice Ao69 t355.length co69) t355) := ⟨(by rw [hw]; exact (by (with_reducible repeat (first | apply Kd.V_alloc | apply Kd.V_drewN | apply Kd.V_drew)); exact Kd.V_mono (v2_ (g := gb382) (Kd.V_mono HO357.out (fun k_ hk => (⟨hk, hk.2.2.2.2.2⟩ : _ ∧ k_ ≠ gb382)))) (fun _ hk => ⟨hk.1.1, ⟨hk.1.2.1, ⟨hk.1.2.2.1, ⟨hk.1.2.2.2.1, ⟨hk.1.2.2.2.2.1, hk.1.2.2.2.2.2⟩⟩⟩⟩⟩)))⟩; have n2_ : Aside0 (Kd.V k29 29 w101 w.heap.size (fun k_ => k_ ≠ gb341 ∧ k_ ≠ gb342 ∧ k_ ≠ gb359 ∧ k_ ≠ gb368 ∧ k_ ≠ gb381 ∧ k_ ≠ gb382) (.slice Ao79 t361.length co79) t361) := ⟨(by rw [hw]; exact (by (with_reducible repeat (first | apply Kd.V_alloc | apply Kd.V_drewN | apply Kd.V_drew)); exact Kd.V_mono (v2_ (g := gb382) (Kd.V_mono HO363.out (fun k_ hk => (⟨hk, hk.2.2.2.2.2⟩ : _ ∧ k_ ≠ gb382)))) (fun _ hk => ⟨hk.1.1, ⟨hk.1.2.1, ⟨hk.1.2.2.1, ⟨hk.1.2.2.2.1, ⟨hk.1.2.2.2.2.1, hk.1.2.2.2.2.2⟩⟩⟩⟩⟩)))⟩; have n3_ : Aside0 (Kd.V (Kd.slice 26 (Kd.int .u32)) 27 w101 w.heap.size (fun k_ => k_ ≠ gb341 ∧ k_ ≠ gb342 ∧ k_ ≠ gb359 ∧ k_ ≠ gb368 ∧ k_ ≠ gb381 ∧ k_ ≠ gb382) (.slice Ao80 t364.length co80) t364) := ⟨(by rw [hw]; exact (by (with_reducible repeat (first | apply Kd.V_alloc | apply Kd.V_drewN | apply Kd.V_drew)); exact Kd.V_mono (v2_ (g := gb382) (Kd.V_mono HO366.out (fun k_ hk => (⟨hk, hk.2.2.2.2.2⟩ : _ ∧ k_ ≠ gb382)))) (fun _ hk => ⟨hk.1.1, ⟨hk.1.2.1, ⟨hk.1.2.2.1, ⟨hk.1.2.2.2.1, ⟨hk.1.2.2.2.2.1, hk.1.2.2.2.2.2⟩⟩⟩⟩⟩)))⟩; have n4_ : Aside0 (Kd.V k29 29 w101 w.heap.size (fun k_ => k_ ≠ gb341 ∧ k_ ≠ gb342 ∧ k_ ≠ gb359 ∧ k_ ≠ gb368 ∧ k_ ≠ gb381 ∧ k_ ≠ gb382) (.slice Ao92 t370.length co92) t370) := ⟨(by rw [hw]; exact (by (with_reducible repeat (first | apply Kd.V_alloc | apply Kd.V_drewN | apply Kd.V_drew)); exact Kd.V_mono (v2_ (g := gb382) (Kd.V_mono HO372.out (fun k_ hk => (⟨hk, hk.2.2.2.2.2⟩ : _ ∧ k_ ≠ gb382)))) (fun _ hk => ⟨hk.1.1, ⟨hk.1.2.1, ⟨hk.1.2.2.1, ⟨hk.1.2.2.2.1, ⟨hk.1.2.2.2.2.1, hk.1.2.2.2.2.2⟩⟩⟩⟩⟩)))⟩; have n5_ : Aside0 (Kd.V (Kd.slice 26 (Kd.int .u32)) 27 w101 w.heap.size (fun k_ => k_ ≠ gb341 ∧ k_ ≠ gb342 ∧ k_ ≠ gb359 ∧ k_ ≠ gb368 ∧ k_ ≠ gb381 ∧ k_ ≠ gb382) (.slice Ao93 t373.length co93) t373) := ⟨(by rw [hw]; exact (by (with_reducible repeat (first | apply Kd.V_alloc | apply Kd.V_drewN | apply Kd.V_drew)); exact Kd.V_mono (v2_ (g := gb382) (Kd.V_mono HO375.out (fun k_ hk => (⟨hk, hk.2.2.2.2.2⟩ : _ ∧ k_ ≠ gb382)))) (fun _ hk => ⟨hk.1.1, ⟨hk.1.2.1, ⟨hk.1.2.2.1, ⟨hk.1.2.2.2.1, ⟨hk.1.2.2.2.2.1, hk.1.2.2.2.2.2⟩⟩⟩⟩⟩)))⟩; have n6_ : Aside0 (Kd.V (Kd.int .u32) 26 w101 w.heap.size (fun k_ => k_ ≠ gb341 ∧ k_ ≠ gb342 ∧ k_ ≠ gb359 ∧ k_ ≠ gb368 ∧ k_ ≠ gb381 ∧ k_ ≠ gb382) (.slice Ao100 t377.length co100) t377) := ⟨(by rw [hw]; exact (by (with_reducible repeat (first | apply Kd.V_alloc | apply Kd.V_drewN | apply Kd.V_drew)); exact Kd.V_mono (v2_ (g := gb382) (Kd.V_mono HO379.out (fun k_ hk => (⟨hk, hk.2.2.2.2.2⟩ : _ ∧ k_ ≠ gb382)))) (fun _ hk => ⟨hk.1.1, ⟨hk.1.2.1, ⟨hk.1.2.2.1, ⟨hk.1.2.2.2.1, ⟨hk.1.2.2.2.2.1, hk.1.2.2.2.2.2⟩⟩⟩⟩⟩)))⟩; have n7_ : Aside0 (w101.heap[gb341]? = some (.cells #[.int .i64 a0_0, .slice A0_1 l0_1.length c0_1, .slice A0_2 l0_2.length c0_2] 25 (0, 0))) := ⟨(by rw [hw]; exact (bf2_ BK341.out NB341_382.out))⟩; have n8_ : Aside0 (w101.heap[gb342]? = some (.cells #[.int .u32 a1_0, .slice A1_1 l1_1.length c1_1] 29 (0, 0))) := ⟨(by rw [hw]; exact (bf2_ BK342.out NB342_382.out))⟩; have n9_ : Aside0 (w101.heap[gb359]? = some (.cells #[.int .i64 t351, .slice Ao68 t352.length co68, .slice Ao69 t355.length co69] 25 (0, 0))) := ⟨(by rw [hw]; exact (bf2_ BK359.out NB359_382.out))⟩; have n10_ : Aside0 (w101.heap[gb368]? = some (.cells #[.int .i64 t360, .slice Ao79 t361.length co79, .slice Ao80 t364.length co80] 25 (0, 0))) := ⟨(by rw [hw]; exact (bf2_ BK368.out NB368_382.out))⟩; have n11_ : Aside0 (w101.heap[gb381]? = some (.cells #[.int .i64 t369, .slice Ao92 t370.length co92, .slice Ao93 t373.length co93] 25 (0, 0))) := ⟨(by rw [hw]; exact (bf2_ BK381.out NB381_382.out))⟩; have n12_ : Aside0 (w101.heap[gb382]? = some (.cells #[.int .u32 t376, .slice Ao100 t377.length co100] 29 (0, 0))) := ⟨(by rw [hw]; exact (bp2_ BK382.out))⟩; have n13_ : Aside0 (Below w.heap.size w w101) := ⟨(by rw [hw]; exact (by repeat (first | (with_reducible first | exact HB.out | apply below_alloc | apply pw_below_drewN | apply below_drew1 | refine below_set ?_ GE341.out | refine below_set ?_ GE342.out | refine below_set ?_ GE359.out | refine below_set ?_ GE368.out | refine below_set ?_ GE381.out | refine below_set ?_ GE382.out) | exact HB.out)))⟩; clear hw HO354 HO357 HO363 HO366 HO372 HO375 HO379 BK341 BK342 BK359 BK368 BK381 BK382 HB; have HO354 := n0_; have HO357 := n1_; have HO363 := n2_; have HO366 := n3_; have HO372 := n4_; have HO375 := n5_; have HO379 := n6_; have BK341 := n7_; have BK342 := n8_; have BK359 := n9_; have BK368 := n10_; have BK381 := n11_; have BK382 := n12_; have HB := n13_; clear n0_ n1_ n2_ n3_ n4_ n5_ n6_ n7_ n8_ n9_ n10_ n11_ n12_ n13_; have ⟨hcz102_0, hcz102_1, hcz102_2⟩ := cz3_ BK341.out; have ⟨hfz102_0, hfz102_1, hfz102_2⟩ := fz3_ BK341.out) | ((with_reducible refine gate_callee (f := 15) rfl ?_); refine goesL_ (some 72) rfl rfl Try.func15 (by kernel_rfl) rfl #[.agg #[.int .i64 a0_0, .slice A0_1 l0_1.length c0_1, .slice A0_2 l0_2.length c0_2], .int .i64 a2] rfl (by (try simp only [List.map_toArray, List.map_cons, List.map_nil]); first | done | rfl | (simp only [List.length_drop, List.length_take]; rfl)) ?_; (with_reducible refine (chamberlainref06_Take.calls kj23 a0_0 (fun k_ => k_ < w.heap.size) _ _ l0_1 (fun k_ => k_ < w.heap.size) _ _ l0_2 a2 t383 t384 t387 t390 t391 t394 _ ?side1 ?side2 A45.out).mono ?_); (case side1 => exact Kd.V_mk HC0_1.out (Kd.F_below (Kd.C_F k29_heap HR0_1.out) (by repeat (first | (with_reducible first | exact HB.out | apply below_alloc | apply pw_below_drewN | apply below_drew1 | refine below_set ?_ GE341.out | refine below_set ?_ GE342.out | refine below_set ?_ GE359.out | refine below_set ?_ GE368.out | refine below_set ?_ GE381.out | refine below_set ?_ GE382.out) | exact HB.out)))); (case side2 => exact Kd.V_mk HC0_2.out (Kd.F_below (Kd.C_F (Kd.heap_slice 26 (Kd.heap_int .u32)) HR0_2.out) (by repeat (first | (with_reducible first | exact HB.out | apply below_alloc | apply pw_below_drewN | apply below_drew1 | refine below_set ?_ GE341.out | refine below_set ?_ GE342.out | refine below_set ?_ GE359.out | refine below_set ?_ GE368.out | refine below_set ?_ GE381.out | refine below_set ?_ GE382.out) | exact HB.out)))); rintro e w103 ⟨v385, v388, v392, rfl, ho0, ho1, ho2, hb⟩; refine ⟨_, rfl, ?_⟩; have n0_ := Aside0.mk (vb_ HO354.out hb); have n1_ := Aside0.mk (vb_ HO357.out hb); have n2_ := Aside0.mk (vb_ HO363.out hb); have n3_ := Aside0.mk (vb_ HO366.out hb); have n4_ := Aside0.mk (vb_ HO372.out hb); have n5_ := Aside0.mk (vb_ HO375.out hb); have n6_ := Aside0.mk (vb_ HO379.out hb); have n7_ := Aside0.mk (Kd.V_lower (Kd.V_mono (ok' := fun k_ => k_ ≠ gb341 ∧ k_ ≠ gb342 ∧ k_ ≠ gb359 ∧ k_ ≠ gb368 ∧ k_ ≠ gb381 ∧ k_ ≠ gb382) ho0 (fun k_ hk_ => ⟨Or.elim hk_ (fun hs_ => Or.elim hs_ (fun hs_ => fun e_ => Nat.not_le.2 hs_ (by rw [e_]; exact GW341.out)) (fun hs_ => fun e_ => Nat.not_le.2 hs_ (by rw [e_]; exact GW341.out))) (fun hn_ => (fb_ BK341.out k_ hn_)), Or.elim hk_ (fun hs_ => Or.elim hs_ (fun hs_ => fun e_ => Nat.not_le.2 hs_ (by rw [e_]; exact GW342.out)) (fun hs_ => fun e_ => Nat.not_le.2 hs_ (by rw [e_]; exact GW342.out))) (fun hn_ => (fb_ BK342.out k_ hn_)), Or.elim hk_ (fun hs_ => Or.elim hs_ (fun hs_ => fun e_ => Nat.not_le.2 hs_ (by rw [e_]; exact GW359.out)) (fun hs_ => fun e_ => Nat.not_le.2 hs_ (by rw [e_]; exact GW359.out))) (fun hn_ => (fb_ BK359.out k_ hn_)), Or.elim hk_ (fun hs_ => Or.elim hs_ (fun hs_ => fun e_ => Nat.not_le.2 hs_ (by rw [e_]; exact GW368.out)) (fun hs_ => fun e_ => Nat.not_le.2 hs_ (by rw [e_]; exact GW368.out))) (fun hn_ => (fb_ BK368.out k_ hn_)), Or.elim hk_ (fun hs_ => Or.elim hs_ (fun hs_ => fun e_ => Nat.not_le.2 hs_ (by rw [e_]; exact GW381.out)) (fun hs_ => fun e_ => Nat.not_le.2 hs_ (by rw [e_]; exact GW381.out))) (fun hn_ => (fb_ BK381.out k_ hn_)), Or.elim hk_ (fun hs_ => Or.elim hs_ (fun hs_ => fun e_ => Nat.not_le.2 hs_ (by rw [e_]; exact GW382.out)) (fun hs_ => fun e_ => Nat.not_le.2 hs_ (by rw [e_]; exact GW382.out))) (fun hn_ => (fb_ BK382.out k_ hn_))⟩)) (below_size (by repeat (first | (with_reducible first | exact HB.out | apply below_alloc | apply pw_below_drewN | apply below_drew1 | refine below_set ?_ GE341.out | refine below_set ?_ GE342.out | refine below_set ?_ GE359.out | refine below_set ?_ GE368.out | refine below_set ?_ GE381.out | refine below_set ?_ GE382.out) | exact HB.out)))); have n8_ := Aside0.mk (Kd.V_lower (Kd.V_mono (ok' := fun k_ => k_ ≠ gb341 ∧ k_ ≠ gb342 ∧ k_ ≠ gb359 ∧ k_ ≠ gb368 ∧ k_ ≠ gb381 ∧ k_ ≠ gb382) ho1 (fun k_ hk_ => ⟨Or.elim hk_ (fun hs_ => Or.elim hs_ (fun hs_ => fun e_ => Nat.not_le.2 hs_ (by rw [e_]; exact GW341.out)) (fun hs_ => fun e_ => Nat.not_le.2 hs_ (by rw [e_]; exact GW341.out))) (fun hn_ => (fb_ BK341.out k_ hn_)), Or.elim hk_ (fun hs_ => Or.elim hs_ (fun hs_ => fun e_ => Nat.not_le.2 hs_ (by rw [e_]; exact GW342.out)) (fun hs_ => fun e_ => Nat.not_le.2 hs_ (by rw [e_]; exact GW342.out))) (fun hn_ => (fb_ BK342.out k_ hn_)), Or.elim hk_ (fun hs_ => Or.elim hs_ (fun hs_ => fun e_ => Nat.not_le.2 hs_ (by rw [e_]; exact GW359.out)) (fun hs_ => fun e_ => Nat.not_le.2 hs_ (by rw [e_]; exact GW359.out))) (fun hn_ => (fb_ BK359.out k_ hn_)), Or.elim hk_ (fun hs_ => Or.elim hs_ (fun hs_ => fun e_ => Nat.not_le.2 hs_ (by rw [e_]; exact GW368.out)) (fun hs_ => fun e_ => Nat.not_le.2 hs_ (by rw [e_]; exact GW368.out))) (fun hn_ => (fb_ BK368.out k_ hn_)), Or.elim hk_ (fun hs_ => Or.elim hs_ (fun hs_ => fun e_ => Nat.not_le.2 hs_ (by rw [e_]; exact GW381.out)) (fun hs_ => fun e_ => Nat.not_le.2 hs_ (by rw [e_]; exact GW381.out))) (fun hn_ => (fb_ BK381.out k_ hn_)), Or.elim hk_ (fun hs_ => Or.elim hs_ (fun hs_ => fun e_ => Nat.not_le.2 hs_ (by rw [e_]; exact GW382.out)) (fun hs_ => fun e_ => Nat.not_le.2 hs_ (by rw [e_]; exact GW382.out))) (fun hn_ => (fb_ BK382.out k_ hn_))⟩)) (below_size (by repeat (first | (with_reducible first | exact HB.out | apply below_alloc | apply pw_below_drewN | apply below_drew1 | refine below_set ?_ GE341.out | refine below_set ?_ GE342.out | refine below_set ?_ GE359.out | refine below_set ?_ GE368.out | refine below_set ?_ GE381.out | refine below_set ?_ GE382.out) | exact HB.out)))); have n9_ := Aside0.mk (Kd.V_lower (Kd.V_mono (ok' := fun k_ => k_ ≠ gb341 ∧ k_ ≠ gb342 ∧ k_ ≠ gb359 ∧ k_ ≠ gb368 ∧ k_ ≠ gb381 ∧ k_ ≠ gb382) ho2 (fun k_ hk_ => ⟨Or.elim hk_ (fun hs_ => Or.elim hs_ (fun hs_ => fun e_ => Nat.not_le.2 hs_ (by rw [e_]; exact GW341.out)) (fun hs_ => fun e_ => Nat.not_le.2 hs_ (by rw [e_]; exact GW341.out))) (fun hn_ => (fb_ BK341.out k_ hn_)), Or.elim hk_ (fun hs_ => Or.elim hs_ (fun hs_ => fun e_ => Nat.not_le.2 hs_ (by rw [e_]; exact GW342.out)) (fun hs_ => fun e_ => Nat.not_le.2 hs_ (by rw [e_]; exact GW342.out))) (fun hn_ => (fb_ BK342.out k_ hn_)), Or.elim hk_ (fun hs_ => Or.elim hs_ (fun hs_ => fun e_ => Nat.not_le.2 hs_ (by rw [e_]; exact GW359.out)) (fun hs_ => fun e_ => Nat.not_le.2 hs_ (by rw [e_]; exact GW359.out))) (fun hn_ => (fb_ BK359.out k_ hn_)), Or.elim hk_ (fun hs_ => Or.elim hs_ (fun hs_ => fun e_ => Nat.not_le.2 hs_ (by rw [e_]; exact GW368.out)) (fun hs_ => fun e_ => Nat.not_le.2 hs_ (by rw [e_]; exact GW368.out))) (fun hn_ => (fb_ BK368.out k_ hn_)), Or.elim hk_ (fun hs_ => Or.elim hs_ (fun hs_ => fun e_ => Nat.not_le.2 hs_ (by rw [e_]; exact GW381.out)) (fun hs_ => fun e_ => Nat.not_le.2 hs_ (by rw [e_]; exact GW381.out))) (fun hn_ => (fb_ BK381.out k_ hn_)), Or.elim hk_ (fun hs_ => Or.elim hs_ (fun hs_ => fun e_ => Nat.not_le.2 hs_ (by rw [e_]; exact GW382.out)) (fun hs_ => fun e_ => Nat.not_le.2 hs_ (by rw [e_]; exact GW382.out))) (fun hn_ => (fb_ BK382.out k_ hn_))⟩)) (below_size (by repeat (first | (with_reducible first | exact HB.out | apply below_alloc | apply pw_below_drewN | apply below_drew1 | refine below_set ?_ GE341.out | refine below_set ?_ GE342.out | refine below_set ?_ GE359.out | refine below_set ?_ GE368.out | refine below_set ?_ GE381.out | refine below_set ?_ GE382.out) | exact HB.out)))); have n10_ := Aside0.mk (bb_ BK341.out hb); have n11_ := Aside0.mk (bb_ BK342.out hb); have n12_ := Aside0.mk (bb_ BK359.out hb); have n13_ := Aside0.mk (bb_ BK368.out hb); have n14_ := Aside0.mk (bb_ BK381.out hb); have n15_ := Aside0.mk (bb_ BK382.out hb); have n16_ := Aside0.mk (bs_ hb); clear HO354 HO357 HO363 HO366 HO372 HO375 HO379 BK341 BK342 BK359 BK368 BK381 BK382 HB; have HO354 := n0_; have HO357 := n1_; have HO363 := n2_; have HO366 := n3_; have HO372 := n4_; have HO375 := n5_; have HO379 := n6_; have HO386 := n7_; have HO389 := n8_; have HO393 := n9_; have BK341 := n10_; have BK342 := n11_; have BK359 := n12_; have BK368 := n13_; have BK381 := n14_; have BK382 := n15_; have HB := n16_; clear n0_ n1_ n2_ n3_ n4_ n5_ n6_ n7_ n8_ n9_ n10_ n11_ n12_ n13_ n14_ n15_ n16_; (try clear hb); (try clear hb2); (try clear hk); (try clear hi); (try clear ho0); (try clear ho1); (try clear ho2)) | ((with_reducible refine gate_dst (N := 14) rfl ?_); (try (refine gate_guard (by rfl) ?_; dsimp only)); refine box_event ?hg (N := 14) ?hd (cs := #[.int .i64 0, .slice none 0 0, .slice none 0 0]) (t := 25) ?hr ?_; (case hd => rfl); (case hg => rfl); (case hr => first | (go_simp; done) | (go_simp; rfl)); intro gb395 hg w104 hbox hb; have n0_ := Aside0.mk (ve_ HO354.out gb395 hg hb); have n1_ := Aside0.mk (ve_ HO357.out gb395 hg hb); have n2_ := Aside0.mk (ve_ HO363.out gb395 hg hb); have n3_ := Aside0.mk (ve_ HO366.out gb395 hg hb); have n4_ := Aside0.mk (ve_ HO372.out gb395 hg hb); have n5_ := Aside0.mk (ve_ HO375.out gb395 hg hb); have n6_ := Aside0.mk (ve_ HO379.out gb395 hg hb); have n7_ := Aside0.mk (ve_ HO386.out gb395 hg hb); have n8_ := Aside0.mk (ve_ HO389.out gb395 hg hb); have n9_ := Aside0.mk (ve_ HO393.out gb395 hg hb); have n10_ := Aside0.mk (bb_ BK341.out hb); have n11_ := Aside0.mk (bb_ BK342.out hb); have n12_ := Aside0.mk (bb_ BK359.out hb); have n13_ := Aside0.mk (bb_ BK368.out hb); have n14_ := Aside0.mk (bb_ BK381.out hb); have n15_ := Aside0.mk (bb_ BK382.out hb); have n16_ := Aside0.mk (bs_ hb); have n17_ := Aside0.mk (hbox); have n18_ := Aside0.mk ((ge_ hg : w.heap.size ≤ gb395)); have n19_ := Aside0.mk ((ge_ hg : w.heap.size ≤ gb395)); have n20_ := Aside0.mk ((by rw [hg]; exact Nat.ne_of_lt (blk_lt (g := gb341) (o := .cells #[.int .i64 a0_0, .slice A0_1 l0_1.length c0_1, .slice A0_2 l0_2.length c0_2] 25 (0, 0)) (by (with_reducible repeat (first | refine blk_drewN ?_ _ | refine blk_drew ?_ | refine blk_alloc ?_ _)); exact BK341.out)) : gb341 ≠ gb395)); have n21_ := Aside0.mk ((by rw [hg]; exact Nat.ne_of_gt (blk_lt (g := gb341) (o := .cells #[.int .i64 a0_0, .slice A0_1 l0_1.length c0_1, .slice A0_2 l0_2.length c0_2] 25 (0, 0)) (by (with_reducible repeat (first | refine blk_drewN ?_ _ | refine blk_drew ?_ | refine blk_alloc ?_ _)); exact BK341.out)) : gb395 ≠ gb341)); have n22_ := Aside0.mk ((by rw [hg]; exact Nat.ne_of_lt (blk_lt (g := gb342) (o := .cells #[.int .u32 a1_0, .slice A1_1 l1_1.length c1_1] 29 (0, 0)) (by (with_reducible repeat (first | refine blk_drewN ?_ _ | refine blk_drew ?_ | refine blk_alloc ?_ _)); exact BK342.out)) : gb342 ≠ gb395)); have n23_ := Aside0.mk ((by rw [hg]; exact Nat.ne_of_gt (blk_lt (g := gb342) (o := .cells #[.int .u32 a1_0, .slice A1_1 l1_1.length c1_1] 29 (0, 0)) (by (with_reducible repeat (first | refine blk_drewN ?_ _ | refine blk_drew ?_ | refine blk_alloc ?_ _)); exact BK342.out)) : gb395 ≠ gb342)); have n24_ := Aside0.mk ((by rw [hg]; exact Nat.ne_of_lt (blk_lt (g := gb359) (o := .cells #[.int .i64 t351, .slice Ao68 t352.length co68, .slice Ao69 t355.length co69] 25 (0, 0)) (by (with_reducible repeat (first | refine blk_drewN ?_ _ | refine blk_drew ?_ | refine blk_alloc ?_ _)); exact BK359.out)) : gb359 ≠ gb395)); have n25_ := Aside0.mk ((by rw [hg]; exact Nat.ne_of_gt (blk_lt (g := gb359) (o := .cells #[.int .i64 t351, .slice Ao68 t352.length co68, .slice Ao69 t355.length co69] 25 (0, 0)) (by (with_reducible repeat (first | refine blk_drewN ?_ _ | refine blk_drew ?_ | refine blk_alloc ?_ _)); exact BK359.out)) : gb395 ≠ gb359)); have n26_ := Aside0.mk ((by rw [hg]; exact Nat.ne_of_lt (blk_lt (g := gb368) (o := .cells #[.int .i64 t360, .slice Ao79 t361.length co79, .slice Ao80 t364.length co80] 25 (0, 0)) (by (with_reducible repeat (first | refine blk_drewN ?_ _ | refine blk_drew ?_ | refine blk_alloc ?_ _)); exact BK368.out)) : gb368 ≠ gb395)); have n27_ := Aside0.mk ((by rw [hg]; exact Nat.ne_of_gt (blk_lt (g := gb368) (o := .cells #[.int .i64 t360, .slice Ao79 t361.length co79, .slice Ao80 t364.length co80] 25 (0, 0)) (by (with_reducible repeat (first | refine blk_drewN ?_ _ | refine blk_drew ?_ | refine blk_alloc ?_ _)); exact BK368.out)) : gb395 ≠ gb368)); have n28_ := Aside0.mk ((by rw [hg]; exact Nat.ne_of_lt (blk_lt (g := gb381) (o := .cells #[.int .i64 t369, .slice Ao92 t370.length co92, .slice Ao93 t373.length co93] 25 (0, 0)) (by (with_reducible repeat (first | refine blk_drewN ?_ _ | refine blk_drew ?_ | refine blk_alloc ?_ _)); exact BK381.out)) : gb381 ≠ gb395)); have n29_ := Aside0.mk ((by rw [hg]; exact Nat.ne_of_gt (blk_lt (g := gb381) (o := .cells #[.int .i64 t369, .slice Ao92 t370.length co92, .slice Ao93 t373.length co93] 25 (0, 0)) (by (with_reducible repeat (first | refine blk_drewN ?_ _ | refine blk_drew ?_ | refine blk_alloc ?_ _)); exact BK381.out)) : gb395 ≠ gb381)); have n30_ := Aside0.mk ((by rw [hg]; exact Nat.ne_of_lt (blk_lt (g := gb382) (o := .cells #[.int .u32 t376, .slice Ao100 t377.length co100] 29 (0, 0)) (by (with_reducible repeat (first | refine blk_drewN ?_ _ | refine blk_drew ?_ | refine blk_alloc ?_ _)); exact BK382.out)) : gb382 ≠ gb395)); have n31_ := Aside0.mk ((by rw [hg]; exact Nat.ne_of_gt (blk_lt (g := gb382) (o := .cells #[.int .u32 t376, .slice Ao100 t377.length co100] 29 (0, 0)) (by (with_reducible repeat (first | refine blk_drewN ?_ _ | refine blk_drew ?_ | refine blk_alloc ?_ _)); exact BK382.out)) : gb395 ≠ gb382)); clear HO354 HO357 HO363 HO366 HO372 HO375 HO379 HO386 HO389 HO393 BK341 BK342 BK359 BK368 BK381 BK382 HB; have HO354 := n0_; have HO357 := n1_; have HO363 := n2_; have HO366 := n3_; have HO372 := n4_; have HO375 := n5_; have HO379 := n6_; have HO386 := n7_; have HO389 := n8_; have HO393 := n9_; have BK341 := n10_; have BK342 := n11_; have BK359 := n12_; have BK368 := n13_; have BK381 := n14_; have BK382 := n15_; have HB := n16_; have BK395 := n17_; have GW395 := n18_; have GE395 := n19_; have NB341_395 := n20_; have NB395_341 := n21_; have NB342_395 := n22_; have NB395_342 := n23_; have NB359_395 := n24_; have NB395_359 := n25_; have NB368_395 := n26_; have NB395_368 := n27_; have NB381_395 := n28_; have NB395_381 := n29_; have NB382_395 := n30_; have NB395_382 := n31_; clear n0_ n1_ n2_ n3_ n4_ n5_ n6_ n7_ n8_ n9_ n10_ n11_ n12_ n13_ n14_ n15_ n16_ n17_ n18_ n19_ n20_ n21_ n22_ n23_ n24_ n25_ n26_ n27_ n28_ n29_ n30_ n31_; clear hb hbox hg) | ((with_reducible refine gate_dst (N := 15) rfl ?_); (try (refine gate_guard (by rfl) ?_; dsimp only)); refine box_event ?hg (N := 15) ?hd (cs := #[.int .u32 0, .slice none 0 0]) (t := 29) ?hr ?_; (case hd => rfl); (case hg => rfl); (case hr => first | (go_simp; done) | (go_simp; rfl)); intro gb396 hg w105 hbox hb; have n0_ := Aside0.mk (ve_ HO354.out gb396 hg hb); have n1_ := Aside0.mk (ve_ HO357.out gb396 hg hb); have n2_ := Aside0.mk (ve_ HO363.out gb396 hg hb); have n3_ := Aside0.mk (ve_ HO366.out gb396 hg hb); have n4_ := Aside0.mk (ve_ HO372.out gb396 hg hb); have n5_ := Aside0.mk (ve_ HO375.out gb396 hg hb); have n6_ := Aside0.mk (ve_ HO379.out gb396 hg hb); have n7_ := Aside0.mk (ve_ HO386.out gb396 hg hb); have n8_ := Aside0.mk (ve_ HO389.out gb396 hg hb); have n9_ := Aside0.mk (ve_ HO393.out gb396 hg hb); have n10_ := Aside0.mk (bb_ BK341.out hb); have n11_ := Aside0.mk (bb_ BK342.out hb); have n12_ := Aside0.mk (bb_ BK359.out hb); have n13_ := Aside0.mk (bb_ BK368.out hb); have n14_ := Aside0.mk (bb_ BK381.out hb); have n15_ := Aside0.mk (bb_ BK382.out hb); have n16_ := Aside0.mk (bb_ BK395.out hb); have n17_ := Aside0.mk (bs_ hb); have n18_ := Aside0.mk (hbox); have n19_ := Aside0.mk ((ge_ hg : w.heap.size ≤ gb396)); have n20_ := Aside0.mk ((ge_ hg : w.heap.size ≤ gb396)); have n21_ := Aside0.mk ((by rw [hg]; exact Nat.ne_of_lt (blk_lt (g := gb341) (o := .cells #[.int .i64 a0_0, .slice A0_1 l0_1.length c0_1, .slice A0_2 l0_2.length c0_2] 25 (0, 0)) (by (with_reducible repeat (first | refine blk_drewN ?_ _ | refine blk_drew ?_ | refine blk_alloc ?_ _)); exact BK341.out)) : gb341 ≠ gb396)); have n22_ := Aside0.mk ((by rw [hg]; exact Nat.ne_of_gt (blk_lt (g := gb341) (o := .cells #[.int .i64 a0_0, .slice A0_1 l0_1.length c0_1, .slice A0_2 l0_2.length c0_2] 25 (0, 0)) (by (with_reducible repeat (first | refine blk_drewN ?_ _ | refine blk_drew ?_ | refine blk_alloc ?_ _)); exact BK341.out)) : gb396 ≠ gb341)); have n23_ := Aside0.mk ((by rw [hg]; exact Nat.ne_of_lt (blk_lt (g := gb342) (o := .cells #[.int .u32 a1_0, .slice A1_1 l1_1.length c1_1] 29 (0, 0)) (by (with_reducible repeat (first | refine blk_drewN ?_ _ | refine blk_drew ?_ | refine blk_alloc ?_ _)); exact BK342.out)) : gb342 ≠ gb396)); have n24_ := Aside0.mk ((by rw [hg]; exact Nat.ne_of_gt (blk_lt (g := gb342) (o := .cells #[.int .u32 a1_0, .slice A1_1 l1_1.length c1_1] 29 (0, 0)) (by (with_reducible repeat (first | refine blk_drewN ?_ _ | refine blk_drew ?_ | refine blk_alloc ?_ _)); exact BK342.out)) : gb396 ≠ gb342)); have n25_ := Aside0.mk ((by rw [hg]; exact Nat.ne_of_lt (blk_lt (g := gb359) (o := .cells #[.int .i64 t351, .slice Ao68 t352.length co68, .slice Ao69 t355.length co69] 25 (0, 0)) (by (with_reducible repeat (first | refine blk_drewN ?_ _ | refine blk_drew ?_ | refine blk_alloc ?_ _)); exact BK359.out)) : gb359 ≠ gb396)); have n26_ := Aside0.mk ((by rw [hg]; exact Nat.ne_of_gt (blk_lt (g := gb359) (o := .cells #[.int .i64 t351, .slice Ao68 t352.length co68, .slice Ao69 t355.length co69] 25 (0, 0)) (by (with_reducible repeat (first | refine blk_drewN ?_ _ | refine blk_drew ?_ | refine blk_alloc ?_ _)); exact BK359.out)) : gb396 ≠ gb359)); have n27_ := Aside0.mk ((by rw [hg]; exact Nat.ne_of_lt (blk_lt (g := gb368) (o := .cells #[.int .i64 t360, .slice Ao79 t361.length co79, .slice Ao80 t364.length co80] 25 (0, 0)) (by (with_reducible repeat (first | refine blk_drewN ?_ _ | refine blk_drew ?_ | refine blk_alloc ?_ _)); exact BK368.out)) : gb368 ≠ gb396)); have n28_ := Aside0.mk ((by rw [hg]; exact Nat.ne_of_gt (blk_lt (g := gb368) (o := .cells #[.int .i64 t360, .slice Ao79 t361.length co79, .slice Ao80 t364.length co80] 25 (0, 0)) (by (with_reducible repeat (first | refine blk_drewN ?_ _ | refine blk_drew ?_ | refine blk_alloc ?_ _)); exact BK368.out)) : gb396 ≠ gb368)); have n29_ := Aside0.mk ((by rw [hg]; exact Nat.ne_of_lt (blk_lt (g := gb381) (o := .cells #[.int .i64 t369, .slice Ao92 t370.length co92, .slice Ao93 t373.length co93] 25 (0, 0)) (by (with_reducible repeat (first | refine blk_drewN ?_ _ | refine blk_drew ?_ | refine blk_alloc ?_ _)); exact BK381.out)) : gb381 ≠ gb396)); have n30_ := Aside0.mk ((by rw [hg]; exact Nat.ne_of_gt (blk_lt (g := gb381) (o := .cells #[.int .i64 t369, .slice Ao92 t370.length co92, .slice Ao93 t373.length co93] 25 (0, 0)) (by (with_reducible repeat (first | refine blk_drewN ?_ _ | refine blk_drew ?_ | refine blk_alloc ?_ _)); exact BK381.out)) : gb396 ≠ gb381)); have n31_ := Aside0.mk ((by rw [hg]; exact Nat.ne_of_lt (blk_lt (g := gb382) (o := .cells #[.int .u32 t376, .slice Ao100 t377.length co100] 29 (0, 0)) (by (with_reducible repeat (first | refine blk_drewN ?_ _ | refine blk_drew ?_ | refine blk_alloc ?_ _)); exact BK382.out)) : gb382 ≠ gb396)); have n32_ := Aside0.mk ((by rw [hg]; exact Nat.ne_of_gt (blk_lt (g := gb382) (o := .cells #[.int .u32 t376, .slice Ao100 t377.length co100] 29 (0, 0)) (by (with_reducible repeat (first | refine blk_drewN ?_ _ | refine blk_drew ?_ | refine blk_alloc ?_ _)); exact BK382.out)) : gb396 ≠ gb382)); have n33_ := Aside0.mk ((by rw [hg]; exact Nat.ne_of_lt (blk_lt (g := gb395) (o := .cells #[.int .i64 0, .slice none 0 0, .slice none 0 0] 25 (0, 0)) (by (with_reducible repeat (first | refine blk_drewN ?_ _ | refine blk_drew ?_ | refine blk_alloc ?_ _)); exact BK395.out)) : gb395 ≠ gb396)); have n34_ := Aside0.mk ((by rw [hg]; exact Nat.ne_of_gt (blk_lt (g := gb395) (o := .cells #[.int .i64 0, .slice none 0 0, .slice none 0 0] 25 (0, 0)) (by (with_reducible repeat (first | refine blk_drewN ?_ _ | refine blk_drew ?_ | refine blk_alloc ?_ _)); exact BK395.out)) : gb396 ≠ gb395)); clear HO354 HO357 HO363 HO366 HO372 HO375 HO379 HO386 HO389 HO393 BK341 BK342 BK359 BK368 BK381 BK382 BK395 HB; have HO354 := n0_; have HO357 := n1_; have HO363 := n2_; have HO366 := n3_; have HO372 := n4_; have HO375 := n5_; have HO379 := n6_; have HO386 := n7_; have HO389 := n8_; have HO393 := n9_; have BK341 := n10_; have BK342 := n11_; have BK359 := n12_; have BK368 := n13_; have BK381 := n14_; have BK382 := n15_; have BK395 := n16_; have HB := n17_; have BK396 := n18_; have GW396 := n19_; have GE396 := n20_; have NB341_396 := n21_; have NB396_341 := n22_; have NB342_396 := n23_; have NB396_342 := n24_; have NB359_396 := n25_; have NB396_359 := n26_; have NB368_396 := n27_; have NB396_368 := n28_; have NB381_396 := n29_; have NB396_381 := n30_; have NB382_396 := n31_; have NB396_382 := n32_; have NB395_396 := n33_; have NB396_395 := n34_; clear n0_ n1_ n2_ n3_ n4_ n5_ n6_ n7_ n8_ n9_ n10_ n11_ n12_ n13_ n14_ n15_ n16_ n17_ n18_ n19_ n20_ n21_ n22_ n23_ n24_ n25_ n26_ n27_ n28_ n29_ n30_ n31_ n32_ n33_ n34_; clear hb hbox hg; have hnb106 := NB395_341.out; have hnc106 := NB341_395.out; have hnb107 := NB395_342.out; have hnc107 := NB342_395.out; have hnb108 := NB395_359.out; have hnc108 := NB359_395.out; have hnb109 := NB395_368.out; have hnc109 := NB368_395.out; have hnb110 := NB395_381.out; have hnc110 := NB381_395.out; have hnb111 := NB395_382.out; have hnc111 := NB382_395.out; have hnb112 := NB395_396.out; have hnc112 := NB396_395.out; have ⟨hcz113_0, hcz113_1, hcz113_2⟩ := cz3_ BK395.out; have ⟨hfz113_0, hfz113_1, hfz113_2⟩ := fz3_ BK395.out; obtain ⟨Ao114, co114, eo114⟩ := Kd.V_slice HO386.out; subst eo114; obtain ⟨Ao115, co115, eo115⟩ := Kd.V_slice HO389.out; subst eo115) | ((with_reducible refine gate_store (t := 25) (p := 14) rfl ?_); refine store_event (t := 25) (p := 14) (v := ?vo_w116) (w1 := (((w105.setCell ⟨gb395, 0, none⟩ (.int .i64 t383)).setCell ⟨gb395, 1, none⟩ (.slice Ao114 t384.length co114)).setCell ⟨gb395, 2, none⟩ (.slice Ao115 t387.length co115))) ?hg ?ho ?hn ?hr ?_; (case ho => rfl); (case hg => rfl); (case hn => rfl); (case hr => first | (go_simp; done) | (go_simp; rfl)); intro w116 hw; have n0_ : Aside0 (Kd.V k29 29 w116 w.heap.size (fun k_ => k_ ≠ gb341 ∧ k_ ≠ gb342 ∧ k_ ≠ gb359 ∧ k_ ≠ gb368 ∧ k_ ≠ gb381 ∧ k_ ≠ gb382 ∧ k_ ≠ gb395 ∧ k_ ≠ gb396) (.slice Ao68 t352.length co68) t352) := ⟨(by rw [hw]; exact (by (with_reducible repeat (first | apply Kd.V_alloc | apply Kd.V_drewN | apply Kd.V_drew)); exact Kd.V_mono (v3_ (g := gb395) (Kd.V_mono HO354.out (fun k_ hk => (⟨hk, hk.1.2⟩ : _ ∧ k_ ≠ gb395)))) (fun _ hk => ⟨hk.1.1.1.1, ⟨hk.1.1.1.2.1, ⟨hk.1.1.1.2.2.1, ⟨hk.1.1.1.2.2.2.1, ⟨hk.1.1.1.2.2.2.2.1, ⟨hk.1.1.1.2.2.2.2.2, ⟨hk.1.1.2, hk.1.2⟩⟩⟩⟩⟩⟩⟩)))⟩; have n1_ : Aside0 (Kd.V (Kd.slice 26 (Kd.int .u32)) 27 w116 w.heap.size (fun k_ => k_ ≠ gb341 ∧ k_ ≠ gb342 ∧ k_ ≠ gb359 ∧ k_ ≠ gb368 ∧ k_ ≠ gb381 ∧ k_ ≠ gb382 ∧ k_ ≠ gb395 ∧ k_ ≠ gb396) (.slice Ao69 t355.length co69) t355) := ⟨(by rw [hw]; exact (by (with_reducible repeat (first | apply Kd.V_alloc | apply Kd.V_drewN | apply Kd.V_drew)); exact Kd.V_mono (v3_ (g := gb395) (Kd.V_mono HO357.out (fun k_ hk => (⟨hk, hk.1.2⟩ : _ ∧ k_ ≠ gb395)))) (fun _ hk => ⟨hk.1.1.1.1, ⟨hk.1.1.1.2.1, ⟨hk.1.1.1.2.2.1, ⟨hk.1.1.1.2.2.2.1, ⟨hk.1.1.1.2.2.2.2.1, ⟨hk.1.1.1.2.2.2.2.2, ⟨hk.1.1.2, hk.1.2⟩⟩⟩⟩⟩⟩⟩)))⟩; have n2_ : Aside0 (Kd.V k29 29 w116 w.heap.size (fun k_ => k_ ≠ gb341 ∧ k_ ≠ gb342 ∧ k_ ≠ gb359 ∧ k_ ≠ gb368 ∧ k_ ≠ gb381 ∧ k_ ≠ gb382 ∧ k_ ≠ gb395 ∧ k_ ≠ gb396) (.slice Ao79 t361.length co79) t361) := ⟨(by rw [hw]; exact (by (with_reducible repeat (first | apply Kd.V_alloc | apply Kd.V_drewN | apply Kd.V_drew)); exact Kd.V_mono (v3_ (g := gb395) (Kd.V_mono HO363.out (fun k_ hk => (⟨hk, hk.1.2⟩ : _ ∧ k_ ≠ gb395)))) (fun _ hk => ⟨hk.1.1.1.1, ⟨hk.1.1.1.2.1, ⟨hk.1.1.1.2.2.1, ⟨hk.1.1.1.2.2.2.1, ⟨hk.1.1.1.2.2.2.2.1, ⟨hk.1.1.1.2.2.2.2.2, ⟨hk.1.1.2, hk.1.2⟩⟩⟩⟩⟩⟩⟩)))⟩; have n3_ : Aside0 (Kd.V (Kd.slice 26 (Kd.int .u32)) 27 w116 w.heap.size (fun k_ => k_ ≠ gb341 ∧ k_ ≠ gb342 ∧ k_ ≠ gb359 ∧ k_ ≠ gb368 ∧ k_ ≠ gb381 ∧ k_ ≠ gb382 ∧ k_ ≠ gb395 ∧ k_ ≠ gb396) (.slice Ao80 t364.length co80) t364) := ⟨(by rw [hw]; exact (by (with_reducible repeat (first | apply Kd.V_alloc | apply Kd.V_drewN | apply Kd.V_drew)); exact Kd.V_mono (v3_ (g := gb395) (Kd.V_mono HO366.out (fun k_ hk => (⟨hk, hk.1.2⟩ : _ ∧ k_ ≠ gb395)))) (fun _ hk => ⟨hk.1.1.1.1, ⟨hk.1.1.1.2.1, ⟨hk.1.1.1.2.2.1, ⟨hk.1.1.1.2.2.2.1, ⟨hk.1.1.1.2.2.2.2.1, ⟨hk.1.1.1.2.2.2.2.2, ⟨hk.1.1.2, hk.1.2⟩⟩⟩⟩⟩⟩⟩)))⟩; have n4_ : Aside0 (Kd.V k29 29 w116 w.heap.size (fun k_ => k_ ≠ gb341 ∧ k_ ≠ gb342 ∧ k_ ≠ gb359 ∧ k_ ≠ gb368 ∧ k_ ≠ gb381 ∧ k_ ≠ gb382 ∧ k_ ≠ gb395 ∧ k_ ≠ gb396) (.slice Ao92 t370.length co92) t370) := ⟨(by rw [hw]; exact (by (with_reducible repeat (first | apply Kd.V_alloc | apply Kd.V_drewN | apply Kd.V_drew)); exact Kd.V_mono (v3_ (g := gb395) (Kd.V_mono HO372.out (fun k_ hk => (⟨hk, hk.1.2⟩ : _ ∧ k_ ≠ gb395)))) (fun _ hk => ⟨hk.1.1.1.1, ⟨hk.1.1.1.2.1, ⟨hk.1.1.1.2.2.1, ⟨hk.1.1.1.2.2.2.1, ⟨hk.1.1.1.2.2.2.2.1, ⟨hk.1.1.1.2.2.2.2.2, ⟨hk.1.1.2, hk.1.2⟩⟩⟩⟩⟩⟩⟩)))⟩; have n5_ : Aside0 (Kd.V (Kd.slice 26 (Kd.int .u32)) 27 w116 w.heap.size (fun k_ => k_ ≠ gb341 ∧ k_ ≠ gb342 ∧ k_ ≠ gb359 ∧ k_ ≠ gb368 ∧ k_ ≠ gb381 ∧ k_ ≠ gb382 ∧ k_ ≠ gb395 ∧ k_ ≠ gb396) (.slice Ao93 t373.length co93) t373) := ⟨(by rw [hw]; exact (by (with_reducible repeat (first | apply Kd.V_alloc | apply Kd.V_drewN | apply Kd.V_drew)); exact Kd.V_mono (v3_ (g := gb395) (Kd.V_mono HO375.out (fun k_ hk => (⟨hk, hk.1.2⟩ : _ ∧ k_ ≠ gb395)))) (fun _ hk => ⟨hk.1.1.1.1, ⟨hk.1.1.1.2.1, ⟨hk.1.1.1.2.2.1, ⟨hk.1.1.1.2.2.2.1, ⟨hk.1.1.1.2.2.2.2.1, ⟨hk.1.1.1.2.2.2.2.2, ⟨hk.1.1.2, hk.1.2⟩⟩⟩⟩⟩⟩⟩)))⟩; have n6_ : Aside0 (Kd.V (Kd.int .u32) 26 w116 w.heap.size (fun k_ => k_ ≠ gb341 ∧ k_ ≠ gb342 ∧ k_ ≠ gb359 ∧ k_ ≠ gb368 ∧ k_ ≠ gb381 ∧ k_ ≠ gb382 ∧ k_ ≠ gb395 ∧ k_ ≠ gb396) (.slice Ao100 t377.length co100) t377) := ⟨(by rw [hw]; exact (by (with_reducible repeat (first | apply Kd.V_alloc | apply Kd.V_drewN | apply Kd.V_drew)); exact Kd.V_mono (v3_ (g := gb395) (Kd.V_mono HO379.out (fun k_ hk => (⟨hk, hk.1.2⟩ : _ ∧ k_ ≠ gb395)))) (fun _ hk => ⟨hk.1.1.1.1, ⟨hk.1.1.1.2.1, ⟨hk.1.1.1.2.2.1, ⟨hk.1.1.1.2.2.2.1, ⟨hk.1.1.1.2.2.2.2.1, ⟨hk.1.1.1.2.2.2.2.2, ⟨hk.1.1.2, hk.1.2⟩⟩⟩⟩⟩⟩⟩)))⟩; have n7_ : Aside0 (Kd.V k29 29 w116 w.heap.size (fun k_ => k_ ≠ gb341 ∧ k_ ≠ gb342 ∧ k_ ≠ gb359 ∧ k_ ≠ gb368 ∧ k_ ≠ gb381 ∧ k_ ≠ gb382 ∧ k_ ≠ gb395 ∧ k_ ≠ gb396) (.slice Ao114 t384.length co114) t384) := ⟨(by rw [hw]; exact (by (with_reducible repeat (first | apply Kd.V_alloc | apply Kd.V_drewN | apply Kd.V_drew)); exact Kd.V_mono (v3_ (g := gb395) (Kd.V_mono HO386.out (fun k_ hk => (⟨hk, hk.1.2⟩ : _ ∧ k_ ≠ gb395)))) (fun _ hk => ⟨hk.1.1.1.1, ⟨hk.1.1.1.2.1, ⟨hk.1.1.1.2.2.1, ⟨hk.1.1.1.2.2.2.1, ⟨hk.1.1.1.2.2.2.2.1, ⟨hk.1.1.1.2.2.2.2.2, ⟨hk.1.1.2, hk.1.2⟩⟩⟩⟩⟩⟩⟩)))⟩; have n8_ : Aside0 (Kd.V (Kd.slice 26 (Kd.int .u32)) 27 w116 w.heap.size (fun k_ => k_ ≠ gb341 ∧ k_ ≠ gb342 ∧ k_ ≠ gb359 ∧ k_ ≠ gb368 ∧ k_ ≠ gb381 ∧ k_ ≠ gb382 ∧ k_ ≠ gb395 ∧ k_ ≠ gb396) (.slice Ao115 t387.length co115) t387) := ⟨(by rw [hw]; exact (by (with_reducible repeat (first | apply Kd.V_alloc | apply Kd.V_drewN | apply Kd.V_drew)); exact Kd.V_mono (v3_ (g := gb395) (Kd.V_mono HO389.out (fun k_ hk => (⟨hk, hk.1.2⟩ : _ ∧ k_ ≠ gb395)))) (fun _ hk => ⟨hk.1.1.1.1, ⟨hk.1.1.1.2.1, ⟨hk.1.1.1.2.2.1, ⟨hk.1.1.1.2.2.2.1, ⟨hk.1.1.1.2.2.2.2.1, ⟨hk.1.1.1.2.2.2.2.2, ⟨hk.1.1.2, hk.1.2⟩⟩⟩⟩⟩⟩⟩)))⟩; have n9_ : Aside0 (Kd.V (Kd.int .u32) 26 w116 w.heap.size (fun k_ => k_ ≠ gb341 ∧ k_ ≠ gb342 ∧ k_ ≠ gb359 ∧ k_ ≠ gb368 ∧ k_ ≠ gb381 ∧ k_ ≠ gb382 ∧ k_ ≠ gb395 ∧ k_ ≠ gb396) v392 t391) := ⟨(by rw [hw]; exact (by (with_reducible repeat (first | apply Kd.V_alloc | apply Kd.V_drewN | apply Kd.V_drew)); exact Kd.V_mono (v3_ (g := gb395) (Kd.V_mono HO393.out (fun k_ hk => (⟨hk, hk.1.2⟩ : _ ∧ k_ ≠ gb395)))) (fun _ hk => ⟨hk.1.1.1.1, ⟨hk.1.1.1.2.1, ⟨hk.1.1.1.2.2.1, ⟨hk.1.1.1.2.2.2.1, ⟨hk.1.1.1.2.2.2.2.1, ⟨hk.1.1.1.2.2.2.2.2, ⟨hk.1.1.2, hk.1.2⟩⟩⟩⟩⟩⟩⟩)))⟩; have n10_ : Aside0 (w116.heap[gb341]? = some (.cells #[.int .i64 a0_0, .slice A0_1 l0_1.length c0_1, .slice A0_2 l0_2.length c0_2] 25 (0, 0))) := ⟨(by rw [hw]; exact (bf3_ BK341.out NB341_395.out))⟩; have n11_ : Aside0 (w116.heap[gb342]? = some (.cells #[.int .u32 a1_0, .slice A1_1 l1_1.length c1_1] 29 (0, 0))) := ⟨(by rw [hw]; exact (bf3_ BK342.out NB342_395.out))⟩; have n12_ : Aside0 (w116.heap[gb359]? = some (.cells #[.int .i64 t351, .slice Ao68 t352.length co68, .slice Ao69 t355.length co69] 25 (0, 0))) := ⟨(by rw [hw]; exact (bf3_ BK359.out NB359_395.out))⟩; have n13_ : Aside0 (w116.heap[gb368]? = some (.cells #[.int .i64 t360, .slice Ao79 t361.length co79, .slice Ao80 t364.length co80] 25 (0, 0))) := ⟨(by rw [hw]; exact (bf3_ BK368.out NB368_395.out))⟩; have n14_ : Aside0 (w116.heap[gb381]? = some (.cells #[.int .i64 t369, .slice Ao92 t370.length co92, .slice Ao93 t373.length co93] 25 (0, 0))) := ⟨(by rw [hw]; exact (bf3_ BK381.out NB381_395.out))⟩; have n15_ : Aside0 (w116.heap[gb382]? = some (.cells #[.int .u32 t376, .slice Ao100 t377.length co100] 29 (0, 0))) := ⟨(by rw [hw]; exact (bf3_ BK382.out NB382_395.out))⟩; have n16_ : Aside0 (w116.heap[gb395]? = some (.cells #[.int .i64 t383, .slice Ao114 t384.length co114, .slice Ao115 t387.length co115] 25 (0, 0))) := ⟨(by rw [hw]; exact (bp3_ BK395.out))⟩; have n17_ : Aside0 (w116.heap[gb396]? = some (.cells #[.int .u32 0, .slice none 0 0] 29 (0, 0))) := ⟨(by rw [hw]; exact (bf3_ BK396.out NB396_395.out))⟩; have n18_ : Aside0 (Below w.heap.size w w116) := ⟨(by rw [hw]; exact (by repeat (first | (with_reducible first | exact HB.out | apply below_alloc | apply pw_below_drewN | apply below_drew1 | refine below_set ?_ GE341.out | refine below_set ?_ GE342.out | refine below_set ?_ GE359.out | refine below_set ?_ GE368.out | refine below_set ?_ GE381.out | refine below_set ?_ GE382.out | refine below_set ?_ GE395.out | refine below_set ?_ GE396.out) | exact HB.out)))⟩; clear hw HO354 HO357 HO363 HO366 HO372 HO375 HO379 HO386 HO389 HO393 BK341 BK342 BK359 BK368 BK381 BK382 BK395 BK396 HB; have HO354 := n0_; have HO357 := n1_; have HO363 := n2_; have HO366 := n3_; have HO372 := n4_; have HO375 := n5_; have HO379 := n6_; have HO386 := n7_; have HO389 := n8_; have HO393 := n9_; have BK341 := n10_; have BK342 := n11_; have BK359 := n12_; have BK368 := n13_; have BK381 := n14_; have BK382 := n15_; have BK395 := n16_; have BK396 := n17_; have HB := n18_; clear n0_ n1_ n2_ n3_ n4_ n5_ n6_ n7_ n8_ n9_ n10_ n11_ n12_ n13_ n14_ n15_ n16_ n17_ n18_; have hnb117 := NB396_341.out; have hnc117 := NB341_396.out; have hnb118 := NB396_342.out; have hnc118 := NB342_396.out; have hnb119 := NB396_359.out; have hnc119 := NB359_396.out; have hnb120 := NB396_368.out; have hnc120 := NB368_396.out; have hnb121 := NB396_381.out; have hnc121 := NB381_396.out; have hnb122 := NB396_382.out; have hnc122 := NB382_396.out; have ⟨hcz123_0, hcz123_1⟩ := cz2_ BK396.out; have ⟨hfz123_0, hfz123_1⟩ := fz2_ BK396.out; obtain ⟨Ao124, co124, eo124⟩ := Kd.V_slice HO393.out; subst eo124) | ((with_reducible refine gate_store (t := 29) (p := 15) rfl ?_); refine store_event (t := 29) (p := 15) (v := ?vo_w125) (w1 := ((w116.setCell ⟨gb396, 0, none⟩ (.int .u32 t390)).setCell ⟨gb396, 1, none⟩ (.slice Ao124 t391.length co124))) ?hg ?ho ?hn ?hr ?_; (case ho => rfl); (case hg => rfl); (case hn => rfl); (case hr => first | (go_simp; done) | (go_simp; rfl)); intro w125 hw; have n0_ : Aside0 (Kd.V k29 29 w125 w.heap.size (fun k_ => k_ ≠ gb341 ∧ k_ ≠ gb342 ∧ k_ ≠ gb359 ∧ k_ ≠ gb368 ∧ k_ ≠ gb381 ∧ k_ ≠ gb382 ∧ k_ ≠ gb395 ∧ k_ ≠ gb396) (.slice Ao68 t352.length co68) t352) := ⟨(by rw [hw]; exact (by (with_reducible repeat (first | apply Kd.V_alloc | apply Kd.V_drewN | apply Kd.V_drew)); exact Kd.V_mono (v2_ (g := gb396) (Kd.V_mono HO354.out (fun k_ hk => (⟨hk, hk.2.2.2.2.2.2.2⟩ : _ ∧ k_ ≠ gb396)))) (fun _ hk => ⟨hk.1.1, ⟨hk.1.2.1, ⟨hk.1.2.2.1, ⟨hk.1.2.2.2.1, ⟨hk.1.2.2.2.2.1, ⟨hk.1.2.2.2.2.2.1, ⟨hk.1.2.2.2.2.2.2.1, hk.1.2.2.2.2.2.2.2⟩⟩⟩⟩⟩⟩⟩)))⟩; have n1_ : Aside0 (Kd.V (Kd.slice 26 (Kd.int .u32)) 27 w125 w.heap.size (fun k_ => k_ ≠ gb341 ∧ k_ ≠ gb342 ∧ k_ ≠ gb359 ∧ k_ ≠ gb368 ∧ k_ ≠ gb381 ∧ k_ ≠ gb382 ∧ k_ ≠ gb395 ∧ k_ ≠ gb396) (.slice Ao69 t355.length co69) t355) := ⟨(by rw [hw]; exact (by (with_reducible repeat (first | apply Kd.V_alloc | apply Kd.V_drewN | apply Kd.V_drew)); exact Kd.V_mono (v2_ (g := gb396) (Kd.V_mono HO357.out (fun k_ hk => (⟨hk, hk.2.2.2.2.2.2.2⟩ : _ ∧ k_ ≠ gb396)))) (fun _ hk => ⟨hk.1.1, ⟨hk.1.2.1, ⟨hk.1.2.2.1, ⟨hk.1.2.2.2.1, ⟨hk.1.2.2.2.2.1, ⟨hk.1.2.2.2.2.2.1, ⟨hk.1.2.2.2.2.2.2.1, hk.1.2.2.2.2.2.2.2⟩⟩⟩⟩⟩⟩⟩)))⟩; have n2_ : Aside0 (Kd.V k29 29 w125 w.heap.size (fun k_ => k_ ≠ gb341 ∧ k_ ≠ gb342 ∧ k_ ≠ gb359 ∧ k_ ≠ gb368 ∧ k_ ≠ gb381 ∧ k_ ≠ gb382 ∧ k_ ≠ gb395 ∧ k_ ≠ gb396) (.slice Ao79 t361.length co79) t361) := ⟨(by rw [hw]; exact (by (with_reducible repeat (first | apply Kd.V_alloc | apply Kd.V_drewN | apply Kd.V_drew)); exact Kd.V_mono (v2_ (g := gb396) (Kd.V_mono HO363.out (fun k_ hk => (⟨hk, hk.2.2.2.2.2.2.2⟩ : _ ∧ k_ ≠ gb396)))) (fun _ hk => ⟨hk.1.1, ⟨hk.1.2.1, ⟨hk.1.2.2.1, ⟨hk.1.2.2.2.1, ⟨hk.1.2.2.2.2.1, ⟨hk.1.2.2.2.2.2.1, ⟨hk.1.2.2.2.2.2.2.1, hk.1.2.2.2.2.2.2.2⟩⟩⟩⟩⟩⟩⟩)))⟩; have n3_ : Aside0 (Kd.V (Kd.slice 26 (Kd.int .u32)) 27 w125 w.heap.size (fun k_ => k_ ≠ gb341 ∧ k_ ≠ gb342 ∧ k_ ≠ gb359 ∧ k_ ≠ gb368 ∧ k_ ≠ gb381 ∧ k_ ≠ gb382 ∧ k_ ≠ gb395 ∧ k_ ≠ gb396) (.slice Ao80 t364.length co80) t364) := ⟨(by rw [hw]; exact (by (with_reducible repeat (first | apply Kd.V_alloc | apply Kd.V_drewN | apply Kd.V_drew)); exact Kd.V_mono (v2_ (g := gb396) (Kd.V_mono HO366.out (fun k_ hk => (⟨hk, hk.2.2.2.2.2.2.2⟩ : _ ∧ k_ ≠ gb396)))) (fun _ hk => ⟨hk.1.1, ⟨hk.1.2.1, ⟨hk.1.2.2.1, ⟨hk.1.2.2.2.1, ⟨hk.1.2.2.2.2.1, ⟨hk.1.2.2.2.2.2.1, ⟨hk.1.2.2.2.2.2.2.1, hk.1.2.2.2.2.2.2.2⟩⟩⟩⟩⟩⟩⟩)))⟩; have n4_ : Aside0 (Kd.V k29 29 w125 w.heap.size (fun k_ => k_ ≠ gb341 ∧ k_ ≠ gb342 ∧ k_ ≠ gb359 ∧ k_ ≠ gb368 ∧ k_ ≠ gb381 ∧ k_ ≠ gb382 ∧ k_ ≠ gb395 ∧ k_ ≠ gb396) (.slice Ao92 t370.length co92) t370) := ⟨(by rw [hw]; exact (by (with_reducible repeat (first | apply Kd.V_alloc | apply Kd.V_drewN | apply Kd.V_drew)); exact Kd.V_mono (v2_ (g := gb396) (Kd.V_mono HO372.out (fun k_ hk => (⟨hk, hk.2.2.2.2.2.2.2⟩ : _ ∧ k_ ≠ gb396)))) (fun _ hk => ⟨hk.1.1, ⟨hk.1.2.1, ⟨hk.1.2.2.1, ⟨hk.1.2.2.2.1, ⟨hk.1.2.2.2.2.1, ⟨hk.1.2.2.2.2.2.1, ⟨hk.1.2.2.2.2.2.2.1, hk.1.2.2.2.2.2.2.2⟩⟩⟩⟩⟩⟩⟩)))⟩; have n5_ : Aside0 (Kd.V (Kd.slice 26 (Kd.int .u32)) 27 w125 w.heap.size (fun k_ => k_ ≠ gb341 ∧ k_ ≠ gb342 ∧ k_ ≠ gb359 ∧ k_ ≠ gb368 ∧ k_ ≠ gb381 ∧ k_ ≠ gb382 ∧ k_ ≠ gb395 ∧ k_ ≠ gb396) (.slice Ao93 t373.length co93) t373) := ⟨(by rw [hw]; exact (by (with_reducible repeat (first | apply Kd.V_alloc | apply Kd.V_drewN | apply Kd.V_drew)); exact Kd.V_mono (v2_ (g := gb396) (Kd.V_mono HO375.out (fun k_ hk => (⟨hk, hk.2.2.2.2.2.2.2⟩ : _ ∧ k_ ≠ gb396)))) (fun _ hk => ⟨hk.1.1, ⟨hk.1.2.1, ⟨hk.1.2.2.1, ⟨hk.1.2.2.2.1, ⟨hk.1.2.2.2.2.1, ⟨hk.1.2.2.2.2.2.1, ⟨hk.1.2.2.2.2.2.2.1, hk.1.2.2.2.2.2.2.2⟩⟩⟩⟩⟩⟩⟩)))⟩; have n6_ : Aside0 (Kd.V (Kd.int .u32) 26 w125 w.heap.size (fun k_ => k_ ≠ gb341 ∧ k_ ≠ gb342 ∧ k_ ≠ gb359 ∧ k_ ≠ gb368 ∧ k_ ≠ gb381 ∧ k_ ≠ gb382 ∧ k_ ≠ gb395 ∧ k_ ≠ gb396) (.slice Ao100 t377.length co100) t377) := ⟨(by rw [hw]; exact (by (with_reducible repeat (first | apply Kd.V_alloc | apply Kd.V_drewN | apply Kd.V_drew)); exact Kd.V_mono (v2_ (g := gb396) (Kd.V_mono HO379.out (fun k_ hk => (⟨hk, hk.2.2.2.2.2.2.2⟩ : _ ∧ k_ ≠ gb396)))) (fun _ hk => ⟨hk.1.1, ⟨hk.1.2.1, ⟨hk.1.2.2.1, ⟨hk.1.2.2.2.1, ⟨hk.1.2.2.2.2.1, ⟨hk.1.2.2.2.2.2.1, ⟨hk.1.2.2.2.2.2.2.1, hk.1.2.2.2.2.2.2.2⟩⟩⟩⟩⟩⟩⟩)))⟩; have n7_ : Aside0 (Kd.V k29 29 w125 w.heap.size (fun k_ => k_ ≠ gb341 ∧ k_ ≠ gb342 ∧ k_ ≠ gb359 ∧ k_ ≠ gb368 ∧ k_ ≠ gb381 ∧ k_ ≠ gb382 ∧ k_ ≠ gb395 ∧ k_ ≠ gb396) (.slice Ao114 t384.length co114) t384) := ⟨(by rw [hw]; exact (by (with_reducible repeat (first | apply Kd.V_alloc | apply Kd.V_drewN | apply Kd.V_drew)); exact Kd.V_mono (v2_ (g := gb396) (Kd.V_mono HO386.out (fun k_ hk => (⟨hk, hk.2.2.2.2.2.2.2⟩ : _ ∧ k_ ≠ gb396)))) (fun _ hk => ⟨hk.1.1, ⟨hk.1.2.1, ⟨hk.1.2.2.1, ⟨hk.1.2.2.2.1, ⟨hk.1.2.2.2.2.1, ⟨hk.1.2.2.2.2.2.1, ⟨hk.1.2.2.2.2.2.2.1, hk.1.2.2.2.2.2.2.2⟩⟩⟩⟩⟩⟩⟩)))⟩; have n8_ : Aside0 (Kd.V (Kd.slice 26 (Kd.int .u32)) 27 w125 w.heap.size (fun k_ => k_ ≠ gb341 ∧ k_ ≠ gb342 ∧ k_ ≠ gb359 ∧ k_ ≠ gb368 ∧ k_ ≠ gb381 ∧ k_ ≠ gb382 ∧ k_ ≠ gb395 ∧ k_ ≠ gb396) (.slice Ao115 t387.length co115) t387) := ⟨(by rw [hw]; exact (by (with_reducible repeat (first | apply Kd.V_alloc | apply Kd.V_drewN | apply Kd.V_drew)); exact Kd.V_mono (v2_ (g := gb396) (Kd.V_mono HO389.out (fun k_ hk => (⟨hk, hk.2.2.2.2.2.2.2⟩ : _ ∧ k_ ≠ gb396)))) (fun _ hk => ⟨hk.1.1, ⟨hk.1.2.1, ⟨hk.1.2.2.1, ⟨hk.1.2.2.2.1, ⟨hk.1.2.2.2.2.1, ⟨hk.1.2.2.2.2.2.1, ⟨hk.1.2.2.2.2.2.2.1, hk.1.2.2.2.2.2.2.2⟩⟩⟩⟩⟩⟩⟩)))⟩; have n9_ : Aside0 (Kd.V (Kd.int .u32) 26 w125 w.heap.size (fun k_ => k_ ≠ gb341 ∧ k_ ≠ gb342 ∧ k_ ≠ gb359 ∧ k_ ≠ gb368 ∧ k_ ≠ gb381 ∧ k_ ≠ gb382 ∧ k_ ≠ gb395 ∧ k_ ≠ gb396) (.slice Ao124 t391.length co124) t391) := ⟨(by rw [hw]; exact (by (with_reducible repeat (first | apply Kd.V_alloc | apply Kd.V_drewN | apply Kd.V_drew)); exact Kd.V_mono (v2_ (g := gb396) (Kd.V_mono HO393.out (fun k_ hk => (⟨hk, hk.2.2.2.2.2.2.2⟩ : _ ∧ k_ ≠ gb396)))) (fun _ hk => ⟨hk.1.1, ⟨hk.1.2.1, ⟨hk.1.2.2.1, ⟨hk.1.2.2.2.1, ⟨hk.1.2.2.2.2.1, ⟨hk.1.2.2.2.2.2.1, ⟨hk.1.2.2.2.2.2.2.1, hk.1.2.2.2.2.2.2.2⟩⟩⟩⟩⟩⟩⟩)))⟩; have n10_ : Aside0 (w125.heap[gb341]? = some (.cells #[.int .i64 a0_0, .slice A0_1 l0_1.length c0_1, .slice A0_2 l0_2.length c0_2] 25 (0, 0))) := ⟨(by rw [hw]; exact (bf2_ BK341.out NB341_396.out))⟩; have n11_ : Aside0 (w125.heap[gb342]? = some (.cells #[.int .u32 a1_0, .slice A1_1 l1_1.length c1_1] 29 (0, 0))) := ⟨(by rw [hw]; exact (bf2_ BK342.out NB342_396.out))⟩; have n12_ : Aside0 (w125.heap[gb359]? = some (.cells #[.int .i64 t351, .slice Ao68 t352.length co68, .slice Ao69 t355.length co69] 25 (0, 0))) := ⟨(by rw [hw]; exact (bf2_ BK359.out NB359_396.out))⟩; have n13_ : Aside0 (w125.heap[gb368]? = some (.cells #[.int .i64 t360, .slice Ao79 t361.length co79, .slice Ao80 t364.length co80] 25 (0, 0))) := ⟨(by rw [hw]; exact (bf2_ BK368.out NB368_396.out))⟩; have n14_ : Aside0 (w125.heap[gb381]? = some (.cells #[.int .i64 t369, .slice Ao92 t370.length co92, .slice Ao93 t373.length co93] 25 (0, 0))) := ⟨(by rw [hw]; exact (bf2_ BK381.out NB381_396.out))⟩; have n15_ : Aside0 (w125.heap[gb382]? = some (.cells #[.int .u32 t376, .slice Ao100 t377.length co100] 29 (0, 0))) := ⟨(by rw [hw]; exact (bf2_ BK382.out NB382_396.out))⟩; have n16_ : Aside0 (w125.heap[gb395]? = some (.cells #[.int .i64 t383, .slice Ao114 t384.length co114, .slice Ao115 t387.length co115] 25 (0, 0))) := ⟨(by rw [hw]; exact (bf2_ BK395.out NB395_396.out))⟩; have n17_ : Aside0 (w125.heap[gb396]? = some (.cells #[.int .u32 t390, .slice Ao124 t391.length co124] 29 (0, 0))) := ⟨(by rw [hw]; exact (bp2_ BK396.out))⟩; have n18_ : Aside0 (Below w.heap.size w w125) := ⟨(by rw [hw]; exact (by repeat (first | (with_reducible first | exact HB.out | apply below_alloc | apply pw_below_drewN | apply below_drew1 | refine below_set ?_ GE341.out | refine below_set ?_ GE342.out | refine below_set ?_ GE359.out | refine below_set ?_ GE368.out | refine below_set ?_ GE381.out | refine below_set ?_ GE382.out | refine below_set ?_ GE395.out | refine below_set ?_ GE396.out) | exact HB.out)))⟩; clear hw HO354 HO357 HO363 HO366 HO372 HO375 HO379 HO386 HO389 HO393 BK341 BK342 BK359 BK368 BK381 BK382 BK395 BK396 HB; have HO354 := n0_; have HO357 := n1_; have HO363 := n2_; have HO366 := n3_; have HO372 := n4_; have HO375 := n5_; have HO379 := n6_; have HO386 := n7_; have HO389 := n8_; have HO393 := n9_; have BK341 := n10_; have BK342 := n11_; have BK359 := n12_; have BK368 := n13_; have BK381 := n14_; have BK382 := n15_; have BK395 := n16_; have BK396 := n17_; have HB := n18_; clear n0_ n1_ n2_ n3_ n4_ n5_ n6_ n7_ n8_ n9_ n10_ n11_ n12_ n13_ n14_ n15_ n16_ n17_ n18_; have ⟨hcz126_0, hcz126_1, hcz126_2⟩ := cz3_ BK341.out; have ⟨hfz126_0, hfz126_1, hfz126_2⟩ := fz3_ BK341.out) | ((with_reducible refine gate_callee (f := 16) rfl ?_); refine goesL_ (some 79) rfl rfl Try.func16 (by kernel_rfl) rfl #[.agg #[.int .i64 a0_0, .slice A0_1 l0_1.length c0_1, .slice A0_2 l0_2.length c0_2], .int .i64 a2] rfl (by (try simp only [List.map_toArray, List.map_cons, List.map_nil]); first | done | rfl | (simp only [List.length_drop, List.length_take]; rfl)) ?_; (with_reducible refine (net_Double.calls a0_0 (fun k_ => k_ < w.heap.size) _ _ l0_1 (fun k_ => k_ < w.heap.size) _ _ l0_2 a2 t397 t398 t401 t404 _ ?side1 ?side2 A46.out).mono ?_); (case side1 => exact Kd.V_mk HC0_1.out (Kd.F_below (Kd.C_F k29_heap HR0_1.out) (by repeat (first | (with_reducible first | exact HB.out | apply below_alloc | apply pw_below_drewN | apply below_drew1 | refine below_set ?_ GE341.out | refine below_set ?_ GE342.out | refine below_set ?_ GE359.out | refine below_set ?_ GE368.out | refine below_set ?_ GE381.out | refine below_set ?_ GE382.out | refine below_set ?_ GE395.out | refine below_set ?_ GE396.out) | exact HB.out)))); (case side2 => exact Kd.V_mk HC0_2.out (Kd.F_below (Kd.C_F (Kd.heap_slice 26 (Kd.heap_int .u32)) HR0_2.out) (by repeat (first | (with_reducible first | exact HB.out | apply below_alloc | apply pw_below_drewN | apply below_drew1 | refine below_set ?_ GE341.out | refine below_set ?_ GE342.out | refine below_set ?_ GE359.out | refine below_set ?_ GE368.out | refine below_set ?_ GE381.out | refine below_set ?_ GE382.out | refine below_set ?_ GE395.out | refine below_set ?_ GE396.out) | exact HB.out)))); rintro e w127 ⟨v399, v402, rfl, ho0, ho1, hb⟩; refine ⟨_, rfl, ?_⟩; have n0_ := Aside0.mk (vb_ HO354.out hb); have n1_ := Aside0.mk (vb_ HO357.out hb); have n2_ := Aside0.mk (vb_ HO363.out hb); have n3_ := Aside0.mk (vb_ HO366.out hb); have n4_ := Aside0.mk (vb_ HO372.out hb); have n5_ := Aside0.mk (vb_ HO375.out hb); have n6_ := Aside0.mk (vb_ HO379.out hb); have n7_ := Aside0.mk (vb_ HO386.out hb); have n8_ := Aside0.mk (vb_ HO389.out hb); have n9_ := Aside0.mk (vb_ HO393.out hb); have n10_ := Aside0.mk (Kd.V_lower (Kd.V_mono (ok' := fun k_ => k_ ≠ gb341 ∧ k_ ≠ gb342 ∧ k_ ≠ gb359 ∧ k_ ≠ gb368 ∧ k_ ≠ gb381 ∧ k_ ≠ gb382 ∧ k_ ≠ gb395 ∧ k_ ≠ gb396) ho0 (fun k_ hk_ => ⟨Or.elim hk_ (fun hs_ => Or.elim hs_ (fun hs_ => fun e_ => Nat.not_le.2 hs_ (by rw [e_]; exact GW341.out)) (fun hs_ => fun e_ => Nat.not_le.2 hs_ (by rw [e_]; exact GW341.out))) (fun hn_ => (fb_ BK341.out k_ hn_)), Or.elim hk_ (fun hs_ => Or.elim hs_ (fun hs_ => fun e_ => Nat.not_le.2 hs_ (by rw [e_]; exact GW342.out)) (fun hs_ => fun e_ => Nat.not_le.2 hs_ (by rw [e_]; exact GW342.out))) (fun hn_ => (fb_ BK342.out k_ hn_)), Or.elim hk_ (fun hs_ => Or.elim hs_ (fun hs_ => fun e_ => Nat.not_le.2 hs_ (by rw [e_]; exact GW359.out)) (fun hs_ => fun e_ => Nat.not_le.2 hs_ (by rw [e_]; exact GW359.out))) (fun hn_ => (fb_ BK359.out k_ hn_)), Or.elim hk_ (fun hs_ => Or.elim hs_ (fun hs_ => fun e_ => Nat.not_le.2 hs_ (by rw [e_]; exact GW368.out)) (fun hs_ => fun e_ => Nat.not_le.2 hs_ (by rw [e_]; exact GW368.out))) (fun hn_ => (fb_ BK368.out k_ hn_)), Or.elim hk_ (fun hs_ => Or.elim hs_ (fun hs_ => fun e_ => Nat.not_le.2 hs_ (by rw [e_]; exact GW381.out)) (fun hs_ => fun e_ => Nat.not_le.2 hs_ (by rw [e_]; exact GW381.out))) (fun hn_ => (fb_ BK381.out k_ hn_)), Or.elim hk_ (fun hs_ => Or.elim hs_ (fun hs_ => fun e_ => Nat.not_le.2 hs_ (by rw [e_]; exact GW382.out)) (fun hs_ => fun e_ => Nat.not_le.2 hs_ (by rw [e_]; exact GW382.out))) (fun hn_ => (fb_ BK382.out k_ hn_)), Or.elim hk_ (fun hs_ => Or.elim hs_ (fun hs_ => fun e_ => Nat.not_le.2 hs_ (by rw [e_]; exact GW395.out)) (fun hs_ => fun e_ => Nat.not_le.2 hs_ (by rw [e_]; exact GW395.out))) (fun hn_ => (fb_ BK395.out k_ hn_)), Or.elim hk_ (fun hs_ => Or.elim hs_ (fun hs_ => fun e_ => Nat.not_le.2 hs_ (by rw [e_]; exact GW396.out)) (fun hs_ => fun e_ => Nat.not_le.2 hs_ (by rw [e_]; exact GW396.out))) (fun hn_ => (fb_ BK396.out k_ hn_))⟩)) (below_size (by repeat (first | (with_reducible first | exact HB.out | apply below_alloc | apply pw_below_drewN | apply below_drew1 | refine below_set ?_ GE341.out | refine below_set ?_ GE342.out | refine below_set ?_ GE359.out | refine below_set ?_ GE368.out | refine below_set ?_ GE381.out | refine below_set ?_ GE382.out | refine below_set ?_ GE395.out | refine below_set ?_ GE396.out) | exact HB.out)))); have n11_ := Aside0.mk (Kd.V_lower (Kd.V_mono (ok' := fun k_ => k_ ≠ gb341 ∧ k_ ≠ gb342 ∧ k_ ≠ gb359 ∧ k_ ≠ gb368 ∧ k_ ≠ gb381 ∧ k_ ≠ gb382 ∧ k_ ≠ gb395 ∧ k_ ≠ gb396) ho1 (fun k_ hk_ => ⟨Or.elim hk_ (fun hs_ => Or.elim hs_ (fun hs_ => fun e_ => Nat.not_le.2 hs_ (by rw [e_]; exact GW341.out)) (fun hs_ => fun e_ => Nat.not_le.2 hs_ (by rw [e_]; exact GW341.out))) (fun hn_ => (fb_ BK341.out k_ hn_)), Or.elim hk_ (fun hs_ => Or.elim hs_ (fun hs_ => fun e_ => Nat.not_le.2 hs_ (by rw [e_]; exact GW342.out)) (fun hs_ => fun e_ => Nat.not_le.2 hs_ (by rw [e_]; exact GW342.out))) (fun hn_ => (fb_ BK342.out k_ hn_)), Or.elim hk_ (fun hs_ => Or.elim hs_ (fun hs_ => fun e_ => Nat.not_le.2 hs_ (by rw [e_]; exact GW359.out)) (fun hs_ => fun e_ => Nat.not_le.2 hs_ (by rw [e_]; exact GW359.out))) (fun hn_ => (fb_ BK359.out k_ hn_)), Or.elim hk_ (fun hs_ => Or.elim hs_ (fun hs_ => fun e_ => Nat.not_le.2 hs_ (by rw [e_]; exact GW368.out)) (fun hs_ => fun e_ => Nat.not_le.2 hs_ (by rw [e_]; exact GW368.out))) (fun hn_ => (fb_ BK368.out k_ hn_)), Or.elim hk_ (fun hs_ => Or.elim hs_ (fun hs_ => fun e_ => Nat.not_le.2 hs_ (by rw [e_]; exact GW381.out)) (fun hs_ => fun e_ => Nat.not_le.2 hs_ (by rw [e_]; exact GW381.out))) (fun hn_ => (fb_ BK381.out k_ hn_)), Or.elim hk_ (fun hs_ => Or.elim hs_ (fun hs_ => fun e_ => Nat.not_le.2 hs_ (by rw [e_]; exact GW382.out)) (fun hs_ => fun e_ => Nat.not_le.2 hs_ (by rw [e_]; exact GW382.out))) (fun hn_ => (fb_ BK382.out k_ hn_)), Or.elim hk_ (fun hs_ => Or.elim hs_ (fun hs_ => fun e_ => Nat.not_le.2 hs_ (by rw [e_]; exact GW395.out)) (fun hs_ => fun e_ => Nat.not_le.2 hs_ (by rw [e_]; exact GW395.out))) (fun hn_ => (fb_ BK395.out k_ hn_)), Or.elim hk_ (fun hs_ => Or.elim hs_ (fun hs_ => fun e_ => Nat.not_le.2 hs_ (by rw [e_]; exact GW396.out)) (fun hs_ => fun e_ => Nat.not_le.2 hs_ (by rw [e_]; exact GW396.out))) (fun hn_ => (fb_ BK396.out k_ hn_))⟩)) (below_size (by repeat (first | (with_reducible first | exact HB.out | apply below_alloc | apply pw_below_drewN | apply below_drew1 | refine below_set ?_ GE341.out | refine below_set ?_ GE342.out | refine below_set ?_ GE359.out | refine below_set ?_ GE368.out | refine below_set ?_ GE381.out | refine below_set ?_ GE382.out | refine below_set ?_ GE395.out | refine below_set ?_ GE396.out) | exact HB.out)))); have n12_ := Aside0.mk (bb_ BK341.out hb); have n13_ := Aside0.mk (bb_ BK342.out hb); have n14_ := Aside0.mk (bb_ BK359.out hb); have n15_ := Aside0.mk (bb_ BK368.out hb); have n16_ := Aside0.mk (bb_ BK381.out hb); have n17_ := Aside0.mk (bb_ BK382.out hb); have n18_ := Aside0.mk (bb_ BK395.out hb); have n19_ := Aside0.mk (bb_ BK396.out hb); have n20_ := Aside0.mk (bs_ hb); clear HO354 HO357 HO363 HO366 HO372 HO375 HO379 HO386 HO389 HO393 BK341 BK342 BK359 BK368 BK381 BK382 BK395 BK396 HB; have HO354 := n0_; have HO357 := n1_; have HO363 := n2_; have HO366 := n3_; have HO372 := n4_; have HO375 := n5_; have HO379 := n6_; have HO386 := n7_; have HO389 := n8_; have HO393 := n9_; have HO400 := n10_; have HO403 := n11_; have BK341 := n12_; have BK342 := n13_; have BK359 := n14_; have BK368 := n15_; have BK381 := n16_; have BK382 := n17_; have BK395 := n18_; have BK396 := n19_; have HB := n20_; clear n0_ n1_ n2_ n3_ n4_ n5_ n6_ n7_ n8_ n9_ n10_ n11_ n12_ n13_ n14_ n15_ n16_ n17_ n18_ n19_ n20_; (try clear hb); (try clear hb2); (try clear hk); (try clear hi); (try clear ho0); (try clear ho1)) | ((with_reducible refine gate_dst (N := 17) rfl ?_); (try (refine gate_guard (by rfl) ?_; dsimp only)); refine box_event ?hg (N := 17) ?hd (cs := #[.int .i64 0, .slice none 0 0, .slice none 0 0]) (t := 25) ?hr ?_; (case hd => rfl); (case hg => rfl); (case hr => first | (go_simp; done) | (go_simp; rfl)); intro gb405 hg w128 hbox hb; have n0_ := Aside0.mk (ve_ HO354.out gb405 hg hb); have n1_ := Aside0.mk (ve_ HO357.out gb405 hg hb); have n2_ := Aside0.mk (ve_ HO363.out gb405 hg hb); have n3_ := Aside0.mk (ve_ HO366.out gb405 hg hb); have n4_ := Aside0.mk (ve_ HO372.out gb405 hg hb); have n5_ := Aside0.mk (ve_ HO375.out gb405 hg hb); have n6_ := Aside0.mk (ve_ HO379.out gb405 hg hb); have n7_ := Aside0.mk (ve_ HO386.out gb405 hg hb); have n8_ := Aside0.mk (ve_ HO389.out gb405 hg hb); have n9_ := Aside0.mk (ve_ HO393.out gb405 hg hb); have n10_ := Aside0.mk (ve_ HO400.out gb405 hg hb); have n11_ := Aside0.mk (ve_ HO403.out gb405 hg hb); have n12_ := Aside0.mk (bb_ BK341.out hb); have n13_ := Aside0.mk (bb_ BK342.out hb); have n14_ := Aside0.mk (bb_ BK359.out hb); have n15_ := Aside0.mk (bb_ BK368.out hb); have n16_ := Aside0.mk (bb_ BK381.out hb); have n17_ := Aside0.mk (bb_ BK382.out hb); have n18_ := Aside0.mk (bb_ BK395.out hb); have n19_ := Aside0.mk (bb_ BK396.out hb); have n20_ := Aside0.mk (bs_ hb); have n21_ := Aside0.mk (hbox); have n22_ := Aside0.mk ((ge_ hg : w.heap.size ≤ gb405)); have n23_ := Aside0.mk ((ge_ hg : w.heap.size ≤ gb405)); have n24_ := Aside0.mk ((by rw [hg]; exact Nat.ne_of_lt (blk_lt (g := gb341) (o := .cells #[.int .i64 a0_0, .slice A0_1 l0_1.length c0_1, .slice A0_2 l0_2.length c0_2] 25 (0, 0)) (by (with_reducible repeat (first | refine blk_drewN ?_ _ | refine blk_drew ?_ | refine blk_alloc ?_ _)); exact BK341.out)) : gb341 ≠ gb405)); have n25_ := Aside0.mk ((by rw [hg]; exact Nat.ne_of_gt (blk_lt (g := gb341) (o := .cells #[.int .i64 a0_0, .slice A0_1 l0_1.length c0_1, .slice A0_2 l0_2.length c0_2] 25 (0, 0)) (by (with_reducible repeat (first | refine blk_drewN ?_ _ | refine blk_drew ?_ | refine blk_alloc ?_ _)); exact BK341.out)) : gb405 ≠ gb341)); have n26_ := Aside0.mk ((by rw [hg]; exact Nat.ne_of_lt (blk_lt (g := gb342) (o := .cells #[.int .u32 a1_0, .slice A1_1 l1_1.length c1_1] 29 (0, 0)) (by (with_reducible repeat (first | refine blk_drewN ?_ _ | refine blk_drew ?_ | refine blk_alloc ?_ _)); exact BK342.out)) : gb342 ≠ gb405)); have n27_ := Aside0.mk ((by rw [hg]; exact Nat.ne_of_gt (blk_lt (g := gb342) (o := .cells #[.int .u32 a1_0, .slice A1_1 l1_1.length c1_1] 29 (0, 0)) (by (with_reducible repeat (first | refine blk_drewN ?_ _ | refine blk_drew ?_ | refine blk_alloc ?_ _)); exact BK342.out)) : gb405 ≠ gb342)); have n28_ := Aside0.mk ((by rw [hg]; exact Nat.ne_of_lt (blk_lt (g := gb359) (o := .cells #[.int .i64 t351, .slice Ao68 t352.length co68, .slice Ao69 t355.length co69] 25 (0, 0)) (by (with_reducible repeat (first | refine blk_drewN ?_ _ | refine blk_drew ?_ | refine blk_alloc ?_ _)); exact BK359.out)) : gb359 ≠ gb405)); have n29_ := Aside0.mk ((by rw [hg]; exact Nat.ne_of_gt (blk_lt (g := gb359) (o := .cells #[.int .i64 t351, .slice Ao68 t352.length co68, .slice Ao69 t355.length co69] 25 (0, 0)) (by (with_reducible repeat (first | refine blk_drewN ?_ _ | refine blk_drew ?_ | refine blk_alloc ?_ _)); exact BK359.out)) : gb405 ≠ gb359)); have n30_ := Aside0.mk ((by rw [hg]; exact Nat.ne_of_lt (blk_lt (g := gb368) (o := .cells #[.int .i64 t360, .slice Ao79 t361.length co79, .slice Ao80 t364.length co80] 25 (0, 0)) (by (with_reducible repeat (first | refine blk_drewN ?_ _ | refine blk_drew ?_ | refine blk_alloc ?_ _)); exact BK368.out)) : gb368 ≠ gb405)); have n31_ := Aside0.mk ((by rw [hg]; exact Nat.ne_of_gt (blk_lt (g := gb368) (o := .cells #[.int .i64 t360, .slice Ao79 t361.length co79, .slice Ao80 t364.length co80] 25 (0, 0)) (by (with_reducible repeat (first | refine blk_drewN ?_ _ | refine blk_drew ?_ | refine blk_alloc ?_ _)); exact BK368.out)) : gb405 ≠ gb368)); have n32_ := Aside0.mk ((by rw [hg]; exact Nat.ne_of_lt (blk_lt (g := gb381) (o := .cells #[.int .i64 t369, .slice Ao92 t370.length co92, .slice Ao93 t373.length co93] 25 (0, 0)) (by (with_reducible repeat (first | refine blk_drewN ?_ _ | refine blk_drew ?_ | refine blk_alloc ?_ _)); exact BK381.out)) : gb381 ≠ gb405)); have n33_ := Aside0.mk ((by rw [hg]; exact Nat.ne_of_gt (blk_lt (g := gb381) (o := .cells #[.int .i64 t369, .slice Ao92 t370.length co92, .slice Ao93 t373.length co93] 25 (0, 0)) (by (with_reducible repeat (first | refine blk_drewN ?_ _ | refine blk_drew ?_ | refine blk_alloc ?_ _)); exact BK381.out)) : gb405 ≠ gb381)); have n34_ := Aside0.mk ((by rw [hg]; exact Nat.ne_of_lt (blk_lt (g := gb382) (o := .cells #[.int .u32 t376, .slice Ao100 t377.length co100] 29 (0, 0)) (by (with_reducible repeat (first | refine blk_drewN ?_ _ | refine blk_drew ?_ | refine blk_alloc ?_ _)); exact BK382.out)) : gb382 ≠ gb405)); have n35_ := Aside0.mk ((by rw [hg]; exact Nat.ne_of_gt (blk_lt (g := gb382) (o := .cells #[.int .u32 t376, .slice Ao100 t377.length co100] 29 (0, 0)) (by (with_reducible repeat (first | refine blk_drewN ?_ _ | refine blk_drew ?_ | refine blk_alloc ?_ _)); exact BK382.out)) : gb405 ≠ gb382)); have n36_ := Aside0.mk ((by rw [hg]; exact Nat.ne_of_lt (blk_lt (g := gb395) (o := .cells #[.int .i64 t383, .slice Ao114 t384.length co114, .slice Ao115 t387.length co115] 25 (0, 0)) (by (with_reducible repeat (first | refine blk_drewN ?_ _ | refine blk_drew ?_ | refine blk_alloc ?_ _)); exact BK395.out)) : gb395 ≠ gb405)); have n37_ := Aside0.mk ((by rw [hg]; exact Nat.ne_of_gt (blk_lt (g := gb395) (o := .cells #[.int .i64 t383, .slice Ao114 t384.length co114, .slice Ao115 t387.length co115] 25 (0, 0)) (by (with_reducible repeat (first | refine blk_drewN ?_ _ | refine blk_drew ?_ | refine blk_alloc ?_ _)); exact BK395.out)) : gb405 ≠ gb395)); have n38_ := Aside0.mk ((by rw [hg]; exact Nat.ne_of_lt (blk_lt (g := gb396) (o := .cells #[.int .u32 t390, .slice Ao124 t391.length co124] 29 (0, 0)) (by (with_reducible repeat (first | refine blk_drewN ?_ _ | refine blk_drew ?_ | refine blk_alloc ?_ _)); exact BK396.out)) : gb396 ≠ gb405)); have n39_ := Aside0.mk ((by rw [hg]; exact Nat.ne_of_gt (blk_lt (g := gb396) (o := .cells #[.int .u32 t390, .slice Ao124 t391.length co124] 29 (0, 0)) (by (with_reducible repeat (first | refine blk_drewN ?_ _ | refine blk_drew ?_ | refine blk_alloc ?_ _)); exact BK396.out)) : gb405 ≠ gb396)); clear HO354 HO357 HO363 HO366 HO372 HO375 HO379 HO386 HO389 HO393 HO400 HO403 BK341 BK342 BK359 BK368 BK381 BK382 BK395 BK396 HB; have HO354 := n0_; have HO357 := n1_; have HO363 := n2_; have HO366 := n3_; have HO372 := n4_; have HO375 := n5_; have HO379 := n6_; have HO386 := n7_; have HO389 := n8_; have HO393 := n9_; have HO400 := n10_; have HO403 := n11_; have BK341 := n12_; have BK342 := n13_; have BK359 := n14_; have BK368 := n15_; have BK381 := n16_; have BK382 := n17_; have BK395 := n18_; have BK396 := n19_; have HB := n20_; have BK405 := n21_; have GW405 := n22_; have GE405 := n23_; have NB341_405 := n24_; have NB405_341 := n25_; have NB342_405 := n26_; have NB405_342 := n27_; have NB359_405 := n28_; have NB405_359 := n29_; have NB368_405 := n30_; have NB405_368 := n31_; have NB381_405 := n32_; have NB405_381 := n33_; have NB382_405 := n34_; have NB405_382 := n35_; have NB395_405 := n36_; have NB405_395 := n37_; have NB396_405 := n38_; have NB405_396 := n39_; clear n0_ n1_ n2_ n3_ n4_ n5_ n6_ n7_ n8_ n9_ n10_ n11_ n12_ n13_ n14_ n15_ n16_ n17_ n18_ n19_ n20_ n21_ n22_ n23_ n24_ n25_ n26_ n27_ n28_ n29_ n30_ n31_ n32_ n33_ n34_ n35_ n36_ n37_ n38_ n39_; clear hb hbox hg; have hnb129 := NB405_341.out; have hnc129 := NB341_405.out; have hnb130 := NB405_342.out; have hnc130 := NB342_405.out; have hnb131 := NB405_359.out; have hnc131 := NB359_405.out; have hnb132 := NB405_368.out; have hnc132 := NB368_405.out; have hnb133 := NB405_381.out; have hnc133 := NB381_405.out; have hnb134 := NB405_382.out; have hnc134 := NB382_405.out; have hnb135 := NB405_395.out; have hnc135 := NB395_405.out; have hnb136 := NB405_396.out; have hnc136 := NB396_405.out; have ⟨hcz137_0, hcz137_1, hcz137_2⟩ := cz3_ BK405.out; have ⟨hfz137_0, hfz137_1, hfz137_2⟩ := fz3_ BK405.out; obtain ⟨Ao138, co138, eo138⟩ := Kd.V_slice HO400.out; subst eo138; obtain ⟨Ao139, co139, eo139⟩ := Kd.V_slice HO403.out; subst eo139) | ((with_reducible refine gate_store (t := 25) (p := 17) rfl ?_); refine store_event (t := 25) (p := 17) (v := ?vo_w140) (w1 := (((w128.setCell ⟨gb405, 0, none⟩ (.int .i64 t397)).setCell ⟨gb405, 1, none⟩ (.slice Ao138 t398.length co138)).setCell ⟨gb405, 2, none⟩ (.slice Ao139 t401.length co139))) ?hg ?ho ?hn ?hr ?_; (case ho => rfl); (case hg => rfl); (case hn => rfl); (case hr => first | (go_simp; done) | (go_simp; rfl)); intro w140 hw; have n0_ : Aside0 (Kd.V k29 29 w140 w.heap.size (fun k_ => k_ ≠ gb341 ∧ k_ ≠ gb342 ∧ k_ ≠ gb359 ∧ k_ ≠ gb368 ∧ k_ ≠ gb381 ∧ k_ ≠ gb382 ∧ k_ ≠ gb395 ∧ k_ ≠ gb396 ∧ k_ ≠ gb405) (.slice Ao68 t352.length co68) t352) := ⟨(by rw [hw]; exact (by (with_reducible repeat (first | apply Kd.V_alloc | apply Kd.V_drewN | apply Kd.V_drew)); exact Kd.V_mono (v3_ (g := gb405) (Kd.V_mono HO354.out (fun k_ hk => (⟨hk, hk.2⟩ : _ ∧ k_ ≠ gb405)))) (fun _ hk => ⟨hk.1.1.1, ⟨hk.1.1.2.1, ⟨hk.1.1.2.2.1, ⟨hk.1.1.2.2.2.1, ⟨hk.1.1.2.2.2.2.1, ⟨hk.1.1.2.2.2.2.2.1, ⟨hk.1.1.2.2.2.2.2.2.1, ⟨hk.1.1.2.2.2.2.2.2.2, hk.1.2⟩⟩⟩⟩⟩⟩⟩⟩)))⟩; have n1_ : Aside0 (Kd.V (Kd.slice 26 (Kd.int .u32)) 27 w140 w.heap.size (fun k_ => k_ ≠ gb341 ∧ k_ ≠ gb342 ∧ k_ ≠ gb359 ∧ k_ ≠ gb368 ∧ k_ ≠ gb381 ∧ k_ ≠ gb382 ∧ k_ ≠ gb395 ∧ k_ ≠ gb396 ∧ k_ ≠ gb405) (.slice Ao69 t355.length co69) t355) := ⟨(by rw [hw]; exact (by (with_reducible repeat (first | apply Kd.V_alloc | apply Kd.V_drewN | apply Kd.V_drew)); exact Kd.V_mono (v3_ (g := gb405) (Kd.V_mono HO357.out (fun k_ hk => (⟨hk, hk.2⟩ : _ ∧ k_ ≠ gb405)))) (fun _ hk => ⟨hk.1.1.1, ⟨hk.1.1.2.1, ⟨hk.1.1.2.2.1, ⟨hk.1.1.2.2.2.1, ⟨hk.1.1.2.2.2.2.1, ⟨hk.1.1.2.2.2.2.2.1, ⟨hk.1.1.2.2.2.2.2.2.1, ⟨hk.1.1.2.2.2.2.2.2.2, hk.1.2⟩⟩⟩⟩⟩⟩⟩⟩)))⟩; have n2_ : Aside0 (Kd.V k29 29 w140 w.heap.size (fun k_ => k_ ≠ gb341 ∧ k_ ≠ gb342 ∧ k_ ≠ gb359 ∧ k_ ≠ gb368 ∧ k_ ≠ gb381 ∧ k_ ≠ gb382 ∧ k_ ≠ gb395 ∧ k_ ≠ gb396 ∧ k_ ≠ gb405) (.slice Ao79 t361.length co79) t361) := ⟨(by rw [hw]; exact (by (with_reducible repeat (first | apply Kd.V_alloc | apply Kd.V_drewN | apply Kd.V_drew)); exact Kd.V_mono (v3_ (g := gb405) (Kd.V_mono HO363.out (fun k_ hk => (⟨hk, hk.2⟩ : _ ∧ k_ ≠ gb405)))) (fun _ hk => ⟨hk.1.1.1, ⟨hk.1.1.2.1, ⟨hk.1.1.2.2.1, ⟨hk.1.1.2.2.2.1, ⟨hk.1.1.2.2.2.2.1, ⟨hk.1.1.2.2.2.2.2.1, ⟨hk.1.1.2.2.2.2.2.2.1, ⟨hk.1.1.2.2.2.2.2.2.2, hk.1.2⟩⟩⟩⟩⟩⟩⟩⟩)))⟩; have n3_ : Aside0 (Kd.V (Kd.slice 26 (Kd.int .u32)) 27 w140 w.heap.size (fun k_ => k_ ≠ gb341 ∧ k_ ≠ gb342 ∧ k_ ≠ gb359 ∧ k_ ≠ gb368 ∧ k_ ≠ gb381 ∧ k_ ≠ gb382 ∧ k_ ≠ gb395 ∧ k_ ≠ gb396 ∧ k_ ≠ gb405) (.slice Ao80 t364.length co80) t364) := ⟨(by rw [hw]; exact (by (with_reducible repeat (first | apply Kd.V_alloc | apply Kd.V_drewN | apply Kd.V_drew)); exact Kd.V_mono (v3_ (g := gb405) (Kd.V_mono HO366.out (fun k_ hk => (⟨hk, hk.2⟩ : _ ∧ k_ ≠ gb405)))) (fun _ hk => ⟨hk.1.1.1, ⟨hk.1.1.2.1, ⟨hk.1.1.2.2.1, ⟨hk.1.1.2.2.2.1, ⟨hk.1.1.2.2.2.2.1, ⟨hk.1.1.2.2.2.2.2.1, ⟨hk.1.1.2.2.2.2.2.2.1, ⟨hk.1.1.2.2.2.2.2.2.2, hk.1.2⟩⟩⟩⟩⟩⟩⟩⟩)))⟩; have n4_ : Aside0 (Kd.V k29 29 w140 w.heap.size (fun k_ => k_ ≠ gb341 ∧ k_ ≠ gb342 ∧ k_ ≠ gb359 ∧ k_ ≠ gb368 ∧ k_ ≠ gb381 ∧ k_ ≠ gb382 ∧ k_ ≠ gb395 ∧ k_ ≠ gb396 ∧ k_ ≠ gb405) (.slice Ao92 t370.length co92) t370) := ⟨(by rw [hw]; exact (by (with_reducible repeat (first | apply Kd.V_alloc | apply Kd.V_drewN | apply Kd.V_drew)); exact Kd.V_mono (v3_ (g := gb405) (Kd.V_mono HO372.out (fun k_ hk => (⟨hk, hk.2⟩ : _ ∧ k_ ≠ gb405)))) (fun _ hk => ⟨hk.1.1.1, ⟨hk.1.1.2.1, ⟨hk.1.1.2.2.1, ⟨hk.1.1.2.2.2.1, ⟨hk.1.1.2.2.2.2.1, ⟨hk.1.1.2.2.2.2.2.1, ⟨hk.1.1.2.2.2.2.2.2.1, ⟨hk.1.1.2.2.2.2.2.2.2, hk.1.2⟩⟩⟩⟩⟩⟩⟩⟩)))⟩; have n5_ : Aside0 (Kd.V (Kd.slice 26 (Kd.int .u32)) 27 w140 w.heap.size (fun k_ => k_ ≠ gb341 ∧ k_ ≠ gb342 ∧ k_ ≠ gb359 ∧ k_ ≠ gb368 ∧ k_ ≠ gb381 ∧ k_ ≠ gb382 ∧ k_ ≠ gb395 ∧ k_ ≠ gb396 ∧ k_ ≠ gb405) (.slice Ao93 t373.length co93) t373) := ⟨(by rw [hw]; exact (by (with_reducible repeat (first | apply Kd.V_alloc | apply Kd.V_drewN | apply Kd.V_drew)); exact Kd.V_mono (v3_ (g := gb405) (Kd.V_mono HO375.out (fun k_ hk => (⟨hk, hk.2⟩ : _ ∧ k_ ≠ gb405)))) (fun _ hk => ⟨hk.1.1.1, ⟨hk.1.1.2.1, ⟨hk.1.1.2.2.1, ⟨hk.1.1.2.2.2.1, ⟨hk.1.1.2.2.2.2.1, ⟨hk.1.1.2.2.2.2.2.1, ⟨hk.1.1.2.2.2.2.2.2.1, ⟨hk.1.1.2.2.2.2.2.2.2, hk.1.2⟩⟩⟩⟩⟩⟩⟩⟩)))⟩; have n6_ : Aside0 (Kd.V (Kd.int .u32) 26 w140 w.heap.size (fun k_ => k_ ≠ gb341 ∧ k_ ≠ gb342 ∧ k_ ≠ gb359 ∧ k_ ≠ gb368 ∧ k_ ≠ gb381 ∧ k_ ≠ gb382 ∧ k_ ≠ gb395 ∧ k_ ≠ gb396 ∧ k_ ≠ gb405) (.slice Ao100 t377.length co100) t377) := ⟨(by rw [hw]; exact (by (with_reducible repeat (first | apply Kd.V_alloc | apply Kd.V_drewN | apply Kd.V_drew)); exact Kd.V_mono (v3_ (g := gb405) (Kd.V_mono HO379.out (fun k_ hk => (⟨hk, hk.2⟩ : _ ∧ k_ ≠ gb405)))) (fun _ hk => ⟨hk.1.1.1, ⟨hk.1.1.2.1, ⟨hk.1.1.2.2.1, ⟨hk.1.1.2.2.2.1, ⟨hk.1.1.2.2.2.2.1, ⟨hk.1.1.2.2.2.2.2.1, ⟨hk.1.1.2.2.2.2.2.2.1, ⟨hk.1.1.2.2.2.2.2.2.2, hk.1.2⟩⟩⟩⟩⟩⟩⟩⟩)))⟩; have n7_ : Aside0 (Kd.V k29 29 w140 w.heap.size (fun k_ => k_ ≠ gb341 ∧ k_ ≠ gb342 ∧ k_ ≠ gb359 ∧ k_ ≠ gb368 ∧ k_ ≠ gb381 ∧ k_ ≠ gb382 ∧ k_ ≠ gb395 ∧ k_ ≠ gb396 ∧ k_ ≠ gb405) (.slice Ao114 t384.length co114) t384) := ⟨(by rw [hw]; exact (by (with_reducible repeat (first | apply Kd.V_alloc | apply Kd.V_drewN | apply Kd.V_drew)); exact Kd.V_mono (v3_ (g := gb405) (Kd.V_mono HO386.out (fun k_ hk => (⟨hk, hk.2⟩ : _ ∧ k_ ≠ gb405)))) (fun _ hk => ⟨hk.1.1.1, ⟨hk.1.1.2.1, ⟨hk.1.1.2.2.1, ⟨hk.1.1.2.2.2.1, ⟨hk.1.1.2.2.2.2.1, ⟨hk.1.1.2.2.2.2.2.1, ⟨hk.1.1.2.2.2.2.2.2.1, ⟨hk.1.1.2.2.2.2.2.2.2, hk.1.2⟩⟩⟩⟩⟩⟩⟩⟩)))⟩; have n8_ : Aside0 (Kd.V (Kd.slice 26 (Kd.int .u32)) 27 w140 w.heap.size (fun k_ => k_ ≠ gb341 ∧ k_ ≠ gb342 ∧ k_ ≠ gb359 ∧ k_ ≠ gb368 ∧ k_ ≠ gb381 ∧ k_ ≠ gb382 ∧ k_ ≠ gb395 ∧ k_ ≠ gb396 ∧ k_ ≠ gb405) (.slice Ao115 t387.length co115) t387) := ⟨(by rw [hw]; exact (by (with_reducible repeat (first | apply Kd.V_alloc | apply Kd.V_drewN | apply Kd.V_drew)); exact Kd.V_mono (v3_ (g := gb405) (Kd.V_mono HO389.out (fun k_ hk => (⟨hk, hk.2⟩ : _ ∧ k_ ≠ gb405)))) (fun _ hk => ⟨hk.1.1.1, ⟨hk.1.1.2.1, ⟨hk.1.1.2.2.1, ⟨hk.1.1.2.2.2.1, ⟨hk.1.1.2.2.2.2.1, ⟨hk.1.1.2.2.2.2.2.1, ⟨hk.1.1.2.2.2.2.2.2.1, ⟨hk.1.1.2.2.2.2.2.2.2, hk.1.2⟩⟩⟩⟩⟩⟩⟩⟩)))⟩; have n9_ : Aside0 (Kd.V (Kd.int .u32) 26 w140 w.heap.size (fun k_ => k_ ≠ gb341 ∧ k_ ≠ gb342 ∧ k_ ≠ gb359 ∧ k_ ≠ gb368 ∧ k_ ≠ gb381 ∧ k_ ≠ gb382 ∧ k_ ≠ gb395 ∧ k_ ≠ gb396 ∧ k_ ≠ gb405) (.slice Ao124 t391.length co124) t391) := ⟨(by rw [hw]; exact (by (with_reducible repeat (first | apply Kd.V_alloc | apply Kd.V_drewN | apply Kd.V_drew)); exact Kd.V_mono (v3_ (g := gb405) (Kd.V_mono HO393.out (fun k_ hk => (⟨hk, hk.2⟩ : _ ∧ k_ ≠ gb405)))) (fun _ hk => ⟨hk.1.1.1, ⟨hk.1.1.2.1, ⟨hk.1.1.2.2.1, ⟨hk.1.1.2.2.2.1, ⟨hk.1.1.2.2.2.2.1, ⟨hk.1.1.2.2.2.2.2.1, ⟨hk.1.1.2.2.2.2.2.2.1, ⟨hk.1.1.2.2.2.2.2.2.2, hk.1.2⟩⟩⟩⟩⟩⟩⟩⟩)))⟩; have n10_ : Aside0 (Kd.V k29 29 w140 w.heap.size (fun k_ => k_ ≠ gb341 ∧ k_ ≠ gb342 ∧ k_ ≠ gb359 ∧ k_ ≠ gb368 ∧ k_ ≠ gb381 ∧ k_ ≠ gb382 ∧ k_ ≠ gb395 ∧ k_ ≠ gb396 ∧ k_ ≠ gb405) (.slice Ao138 t398.length co138) t398) := ⟨(by rw [hw]; exact (by (with_reducible repeat (first | apply Kd.V_alloc | apply Kd.V_drewN | apply Kd.V_drew)); exact Kd.V_mono (v3_ (g := gb405) (Kd.V_mono HO400.out (fun k_ hk => (⟨hk, hk.2⟩ : _ ∧ k_ ≠ gb405)))) (fun _ hk => ⟨hk.1.1.1, ⟨hk.1.1.2.1, ⟨hk.1.1.2.2.1, ⟨hk.1.1.2.2.2.1, ⟨hk.1.1.2.2.2.2.1, ⟨hk.1.1.2.2.2.2.2.1, ⟨hk.1.1.2.2.2.2.2.2.1, ⟨hk.1.1.2.2.2.2.2.2.2, hk.1.2⟩⟩⟩⟩⟩⟩⟩⟩)))⟩; have n11_ : Aside0 (Kd.V (Kd.slice 26 (Kd.int .u32)) 27 w140 w.heap.size (fun k_ => k_ ≠ gb341 ∧ k_ ≠ gb342 ∧ k_ ≠ gb359 ∧ k_ ≠ gb368 ∧ k_ ≠ gb381 ∧ k_ ≠ gb382 ∧ k_ ≠ gb395 ∧ k_ ≠ gb396 ∧ k_ ≠ gb405) (.slice Ao139 t401.length co139) t401) := ⟨(by rw [hw]; exact (by (with_reducible repeat (first | apply Kd.V_alloc | apply Kd.V_drewN | apply Kd.V_drew)); exact Kd.V_mono (v3_ (g := gb405) (Kd.V_mono HO403.out (fun k_ hk => (⟨hk, hk.2⟩ : _ ∧ k_ ≠ gb405)))) (fun _ hk => ⟨hk.1.1.1, ⟨hk.1.1.2.1, ⟨hk.1.1.2.2.1, ⟨hk.1.1.2.2.2.1, ⟨hk.1.1.2.2.2.2.1, ⟨hk.1.1.2.2.2.2.2.1, ⟨hk.1.1.2.2.2.2.2.2.1, ⟨hk.1.1.2.2.2.2.2.2.2, hk.1.2⟩⟩⟩⟩⟩⟩⟩⟩)))⟩; have n12_ : Aside0 (w140.heap[gb341]? = some (.cells #[.int .i64 a0_0, .slice A0_1 l0_1.length c0_1, .slice A0_2 l0_2.length c0_2] 25 (0, 0))) := ⟨(by rw [hw]; exact (bf3_ BK341.out NB341_405.out))⟩; have n13_ : Aside0 (w140.heap[gb342]? = some (.cells #[.int .u32 a1_0, .slice A1_1 l1_1.length c1_1] 29 (0, 0))) := ⟨(by rw [hw]; exact (bf3_ BK342.out NB342_405.out))⟩; have n14_ : Aside0 (w140.heap[gb359]? = some (.cells #[.int .i64 t351, .slice Ao68 t352.length co68, .slice Ao69 t355.length co69] 25 (0, 0))) := ⟨(by rw [hw]; exact (bf3_ BK359.out NB359_405.out))⟩; have n15_ : Aside0 (w140.heap[gb368]? = some (.cells #[.int .i64 t360, .slice Ao79 t361.length co79, .slice Ao80 t364.length co80] 25 (0, 0))) := ⟨(by rw [hw]; exact (bf3_ BK368.out NB368_405.out))⟩; have n16_ : Aside0 (w140.heap[gb381]? = some (.cells #[.int .i64 t369, .slice Ao92 t370.length co92, .slice Ao93 t373.length co93] 25 (0, 0))) := ⟨(by rw [hw]; exact (bf3_ BK381.out NB381_405.out))⟩; have n17_ : Aside0 (w140.heap[gb382]? = some (.cells #[.int .u32 t376, .slice Ao100 t377.length co100] 29 (0, 0))) := ⟨(by rw [hw]; exact (bf3_ BK382.out NB382_405.out))⟩; have n18_ : Aside0 (w140.heap[gb395]? = some (.cells #[.int .i64 t383, .slice Ao114 t384.length co114, .slice Ao115 t387.length co115] 25 (0, 0))) := ⟨(by rw [hw]; exact (bf3_ BK395.out NB395_405.out))⟩; have n19_ : Aside0 (w140.heap[gb396]? = some (.cells #[.int .u32 t390, .slice Ao124 t391.length co124] 29 (0, 0))) := ⟨(by rw [hw]; exact (bf3_ BK396.out NB396_405.out))⟩; have n20_ : Aside0 (w140.heap[gb405]? = some (.cells #[.int .i64 t397, .slice Ao138 t398.length co138, .slice Ao139 t401.length co139] 25 (0, 0))) := ⟨(by rw [hw]; exact (bp3_ BK405.out))⟩; have n21_ : Aside0 (Below w.heap.size w w140) := ⟨(by rw [hw]; exact (by repeat (first | (with_reducible first | exact HB.out | apply below_alloc | apply pw_below_drewN | apply below_drew1 | refine below_set ?_ GE341.out | refine below_set ?_ GE342.out | refine below_set ?_ GE359.out | refine below_set ?_ GE368.out | refine below_set ?_ GE381.out | refine below_set ?_ GE382.out | refine below_set ?_ GE395.out | refine below_set ?_ GE396.out | refine below_set ?_ GE405.out) | exact HB.out)))⟩; clear hw HO354 HO357 HO363 HO366 HO372 HO375 HO379 HO386 HO389 HO393 HO400 HO403 BK341 BK342 BK359 BK368 BK381 BK382 BK395 BK396 BK405 HB; have HO354 := n0_; have HO357 := n1_; have HO363 := n2_; have HO366 := n3_; have HO372 := n4_; have HO375 := n5_; have HO379 := n6_; have HO386 := n7_; have HO389 := n8_; have HO393 := n9_; have HO400 := n10_; have HO403 := n11_; have BK341 := n12_; have BK342 := n13_; have BK359 := n14_; have BK368 := n15_; have BK381 := n16_; have BK382 := n17_; have BK395 := n18_; have BK396 := n19_; have BK405 := n20_; have HB := n21_; clear n0_ n1_ n2_ n3_ n4_ n5_ n6_ n7_ n8_ n9_ n10_ n11_ n12_ n13_ n14_ n15_ n16_ n17_ n18_ n19_ n20_ n21_; have ⟨hcz141_0, hcz141_1, hcz141_2⟩ := cz3_ BK341.out; have ⟨hfz141_0, hfz141_1, hfz141_2⟩ := fz3_ BK341.out) | ((with_reducible refine gate_callee (f := 17) rfl ?_); refine goesL_ (some 85) rfl rfl Try.func17 (by kernel_rfl) rfl #[.agg #[.int .i64 a0_0, .slice A0_1 l0_1.length c0_1, .slice A0_2 l0_2.length c0_2], .int .i64 a2] rfl (by (try simp only [List.map_toArray, List.map_cons, List.map_nil]); first | done | rfl | (simp only [List.length_drop, List.length_take]; rfl)) ?_; (with_reducible refine (chamberlainref06_Double.calls a0_0 (fun k_ => k_ < w.heap.size) _ _ l0_1 (fun k_ => k_ < w.heap.size) _ _ l0_2 a2 t406 t407 t410 t413 _ ?side1 ?side2 A47.out).mono ?_); (case side1 => exact Kd.V_mk HC0_1.out (Kd.F_below (Kd.C_F k29_heap HR0_1.out) (by repeat (first | (with_reducible first | exact HB.out | apply below_alloc | apply pw_below_drewN | apply below_drew1 | refine below_set ?_ GE341.out | refine below_set ?_ GE342.out | refine below_set ?_ GE359.out | refine below_set ?_ GE368.out | refine below_set ?_ GE381.out | refine below_set ?_ GE382.out | refine below_set ?_ GE395.out | refine below_set ?_ GE396.out | refine below_set ?_ GE405.out) | exact HB.out)))); (case side2 => exact Kd.V_mk HC0_2.out (Kd.F_below (Kd.C_F (Kd.heap_slice 26 (Kd.heap_int .u32)) HR0_2.out) (by repeat (first | (with_reducible first | exact HB.out | apply below_alloc | apply pw_below_drewN | apply below_drew1 | refine below_set ?_ GE341.out | refine below_set ?_ GE342.out | refine below_set ?_ GE359.out | refine below_set ?_ GE368.out | refine below_set ?_ GE381.out | refine below_set ?_ GE382.out | refine below_set ?_ GE395.out | refine below_set ?_ GE396.out | refine below_set ?_ GE405.out) | exact HB.out)))); rintro e w142 ⟨v408, v411, rfl, ho0, ho1, hb⟩; refine ⟨_, rfl, ?_⟩; have n0_ := Aside0.mk (vb_ HO354.out hb); have n1_ := Aside0.mk (vb_ HO357.out hb); have n2_ := Aside0.mk (vb_ HO363.out hb); have n3_ := Aside0.mk (vb_ HO366.out hb); have n4_ := Aside0.mk (vb_ HO372.out hb); have n5_ := Aside0.mk (vb_ HO375.out hb); have n6_ := Aside0.mk (vb_ HO379.out hb); have n7_ := Aside0.mk (vb_ HO386.out hb); have n8_ := Aside0.mk (vb_ HO389.out hb); have n9_ := Aside0.mk (vb_ HO393.out hb); have n10_ := Aside0.mk (vb_ HO400.out hb); have n11_ := Aside0.mk (vb_ HO403.out hb); have n12_ := Aside0.mk (Kd.V_lower (Kd.V_mono (ok' := fun k_ => k_ ≠ gb341 ∧ k_ ≠ gb342 ∧ k_ ≠ gb359 ∧ k_ ≠ gb368 ∧ k_ ≠ gb381 ∧ k_ ≠ gb382 ∧ k_ ≠ gb395 ∧ k_ ≠ gb396 ∧ k_ ≠ gb405) ho0 (fun k_ hk_ => ⟨Or.elim hk_ (fun hs_ => Or.elim hs_ (fun hs_ => fun e_ => Nat.not_le.2 hs_ (by rw [e_]; exact GW341.out)) (fun hs_ => fun e_ => Nat.not_le.2 hs_ (by rw [e_]; exact GW341.out))) (fun hn_ => (fb_ BK341.out k_ hn_)), Or.elim hk_ (fun hs_ => Or.elim hs_ (fun hs_ => fun e_ => Nat.not_le.2 hs_ (by rw [e_]; exact GW342.out)) (fun hs_ => fun e_ => Nat.not_le.2 hs_ (by rw [e_]; exact GW342.out))) (fun hn_ => (fb_ BK342.out k_ hn_)), Or.elim hk_ (fun hs_ => Or.elim hs_ (fun hs_ => fun e_ => Nat.not_le.2 hs_ (by rw [e_]; exact GW359.out)) (fun hs_ => fun e_ => Nat.not_le.2 hs_ (by rw [e_]; exact GW359.out))) (fun hn_ => (fb_ BK359.out k_ hn_)), Or.elim hk_ (fun hs_ => Or.elim hs_ (fun hs_ => fun e_ => Nat.not_le.2 hs_ (by rw [e_]; exact GW368.out)) (fun hs_ => fun e_ => Nat.not_le.2 hs_ (by rw [e_]; exact GW368.out))) (fun hn_ => (fb_ BK368.out k_ hn_)), Or.elim hk_ (fun hs_ => Or.elim hs_ (fun hs_ => fun e_ => Nat.not_le.2 hs_ (by rw [e_]; exact GW381.out)) (fun hs_ => fun e_ => Nat.not_le.2 hs_ (by rw [e_]; exact GW381.out))) (fun hn_ => (fb_ BK381.out k_ hn_)), Or.elim hk_ (fun hs_ => Or.elim hs_ (fun hs_ => fun e_ => Nat.not_le.2 hs_ (by rw [e_]; exact GW382.out)) (fun hs_ => fun e_ => Nat.not_le.2 hs_ (by rw [e_]; exact GW382.out))) (fun hn_ => (fb_ BK382.out k_ hn_)), Or.elim hk_ (fun hs_ => Or.elim hs_ (fun hs_ => fun e_ => Nat.not_le.2 hs_ (by rw [e_]; exact GW395.out)) (fun hs_ => fun e_ => Nat.not_le.2 hs_ (by rw [e_]; exact GW395.out))) (fun hn_ => (fb_ BK395.out k_ hn_)), Or.elim hk_ (fun hs_ => Or.elim hs_ (fun hs_ => fun e_ => Nat.not_le.2 hs_ (by rw [e_]; exact GW396.out)) (fun hs_ => fun e_ => Nat.not_le.2 hs_ (by rw [e_]; exact GW396.out))) (fun hn_ => (fb_ BK396.out k_ hn_)), Or.elim hk_ (fun hs_ => Or.elim hs_ (fun hs_ => fun e_ => Nat.not_le.2 hs_ (by rw [e_]; exact GW405.out)) (fun hs_ => fun e_ => Nat.not_le.2 hs_ (by rw [e_]; exact GW405.out))) (fun hn_ => (fb_ BK405.out k_ hn_))⟩)) (below_size (by repeat (first | (with_reducible first | exact HB.out | apply below_alloc | apply pw_below_drewN | apply below_drew1 | refine below_set ?_ GE341.out | refine below_set ?_ GE342.out | refine below_set ?_ GE359.out | refine below_set ?_ GE368.out | refine below_set ?_ GE381.out | refine below_set ?_ GE382.out | refine below_set ?_ GE395.out | refine below_set ?_ GE396.out | refine below_set ?_ GE405.out) | exact HB.out)))); have n13_ := Aside0.mk (Kd.V_lower (Kd.V_mono (ok' := fun k_ => k_ ≠ gb341 ∧ k_ ≠ gb342 ∧ k_ ≠ gb359 ∧ k_ ≠ gb368 ∧ k_ ≠ gb381 ∧ k_ ≠ gb382 ∧ k_ ≠ gb395 ∧ k_ ≠ gb396 ∧ k_ ≠ gb405) ho1 (fun k_ hk_ => ⟨Or.elim hk_ (fun hs_ => Or.elim hs_ (fun hs_ => fun e_ => Nat.not_le.2 hs_ (by rw [e_]; exact GW341.out)) (fun hs_ => fun e_ => Nat.not_le.2 hs_ (by rw [e_]; exact GW341.out))) (fun hn_ => (fb_ BK341.out k_ hn_)), Or.elim hk_ (fun hs_ => Or.elim hs_ (fun hs_ => fun e_ => Nat.not_le.2 hs_ (by rw [e_]; exact GW342.out)) (fun hs_ => fun e_ => Nat.not_le.2 hs_ (by rw [e_]; exact GW342.out))) (fun hn_ => (fb_ BK342.out k_ hn_)), Or.elim hk_ (fun hs_ => Or.elim hs_ (fun hs_ => fun e_ => Nat.not_le.2 hs_ (by rw [e_]; exact GW359.out)) (fun hs_ => fun e_ => Nat.not_le.2 hs_ (by rw [e_]; exact GW359.out))) (fun hn_ => (fb_ BK359.out k_ hn_)), Or.elim hk_ (fun hs_ => Or.elim hs_ (fun hs_ => fun e_ => Nat.not_le.2 hs_ (by rw [e_]; exact GW368.out)) (fun hs_ => fun e_ => Nat.not_le.2 hs_ (by rw [e_]; exact GW368.out))) (fun hn_ => (fb_ BK368.out k_ hn_)), Or.elim hk_ (fun hs_ => Or.elim hs_ (fun hs_ => fun e_ => Nat.not_le.2 hs_ (by rw [e_]; exact GW381.out)) (fun hs_ => fun e_ => Nat.not_le.2 hs_ (by rw [e_]; exact GW381.out))) (fun hn_ => (fb_ BK381.out k_ hn_)), Or.elim hk_ (fun hs_ => Or.elim hs_ (fun hs_ => fun e_ => Nat.not_le.2 hs_ (by rw [e_]; exact GW382.out)) (fun hs_ => fun e_ => Nat.not_le.2 hs_ (by rw [e_]; exact GW382.out))) (fun hn_ => (fb_ BK382.out k_ hn_)), Or.elim hk_ (fun hs_ => Or.elim hs_ (fun hs_ => fun e_ => Nat.not_le.2 hs_ (by rw [e_]; exact GW395.out)) (fun hs_ => fun e_ => Nat.not_le.2 hs_ (by rw [e_]; exact GW395.out))) (fun hn_ => (fb_ BK395.out k_ hn_)), Or.elim hk_ (fun hs_ => Or.elim hs_ (fun hs_ => fun e_ => Nat.not_le.2 hs_ (by rw [e_]; exact GW396.out)) (fun hs_ => fun e_ => Nat.not_le.2 hs_ (by rw [e_]; exact GW396.out))) (fun hn_ => (fb_ BK396.out k_ hn_)), Or.elim hk_ (fun hs_ => Or.elim hs_ (fun hs_ => fun e_ => Nat.not_le.2 hs_ (by rw [e_]; exact GW405.out)) (fun hs_ => fun e_ => Nat.not_le.2 hs_ (by rw [e_]; exact GW405.out))) (fun hn_ => (fb_ BK405.out k_ hn_))⟩)) (below_size (by repeat (first | (with_reducible first | exact HB.out | apply below_alloc | apply pw_below_drewN | apply below_drew1 | refine below_set ?_ GE341.out | refine below_set ?_ GE342.out | refine below_set ?_ GE359.out | refine below_set ?_ GE368.out | refine below_set ?_ GE381.out | refine below_set ?_ GE382.out | refine below_set ?_ GE395.out | refine below_set ?_ GE396.out | refine below_set ?_ GE405.out) | exact HB.out)))); have n14_ := Aside0.mk (bb_ BK341.out hb); have n15_ := Aside0.mk (bb_ BK342.out hb); have n16_ := Aside0.mk (bb_ BK359.out hb); have n17_ := Aside0.mk (bb_ BK368.out hb); have n18_ := Aside0.mk (bb_ BK381.out hb); have n19_ := Aside0.mk (bb_ BK382.out hb); have n20_ := Aside0.mk (bb_ BK395.out hb); have n21_ := Aside0.mk (bb_ BK396.out hb); have n22_ := Aside0.mk (bb_ BK405.out hb); have n23_ := Aside0.mk (bs_ hb); clear HO354 HO357 HO363 HO366 HO372 HO375 HO379 HO386 HO389 HO393 HO400 HO403 BK341 BK342 BK359 BK368 BK381 BK382 BK395 BK396 BK405 HB; have HO354 := n0_; have HO357 := n1_; have HO363 := n2_; have HO366 := n3_; have HO372 := n4_; have HO375 := n5_; have HO379 := n6_; have HO386 := n7_; have HO389 := n8_; have HO393 := n9_; have HO400 := n10_; have HO403 := n11_; have HO409 := n12_; have HO412 := n13_; have BK341 := n14_; have BK342 := n15_; have BK359 := n16_; have BK368 := n17_; have BK381 := n18_; have BK382 := n19_; have BK395 := n20_; have BK396 := n21_; have BK405 := n22_; have HB := n23_; clear n0_ n1_ n2_ n3_ n4_ n5_ n6_ n7_ n8_ n9_ n10_ n11_ n12_ n13_ n14_ n15_ n16_ n17_ n18_ n19_ n20_ n21_ n22_ n23_; (try clear hb); (try clear hb2); (try clear hk); (try clear hi); (try clear ho0); (try clear ho1)) | ((with_reducible refine gate_dst (N := 19) rfl ?_); (try (refine gate_guard (by rfl) ?_; dsimp only)); refine box_event ?hg (N := 19) ?hd (cs := #[.int .i64 0, .slice none 0 0, .slice none 0 0]) (t := 25) ?hr ?_; (case hd => rfl); (case hg => rfl); (case hr => first | (go_simp; done) | (go_simp; rfl)); intro gb414 hg w143 hbox hb; have n0_ := Aside0.mk (ve_ HO354.out gb414 hg hb); have n1_ := Aside0.mk (ve_ HO357.out gb414 hg hb); have n2_ := Aside0.mk (ve_ HO363.out gb414 hg hb); have n3_ := Aside0.mk (ve_ HO366.out gb414 hg hb); have n4_ := Aside0.mk (ve_ HO372.out gb414 hg hb); have n5_ := Aside0.mk (ve_ HO375.out gb414 hg hb); have n6_ := Aside0.mk (ve_ HO379.out gb414 hg hb); have n7_ := Aside0.mk (ve_ HO386.out gb414 hg hb); have n8_ := Aside0.mk (ve_ HO389.out gb414 hg hb); have n9_ := Aside0.mk (ve_ HO393.out gb414 hg hb); have n10_ := Aside0.mk (ve_ HO400.out gb414 hg hb); have n11_ := Aside0.mk (ve_ HO403.out gb414 hg hb); have n12_ := Aside0.mk (ve_ HO409.out gb414 hg hb); have n13_ := Aside0.mk (ve_ HO412.out gb414 hg hb); have n14_ := Aside0.mk (bb_ BK341.out hb); have n15_ := Aside0.mk (bb_ BK342.out hb); have n16_ := Aside0.mk (bb_ BK359.out hb); have n17_ := Aside0.mk (bb_ BK368.out hb); have n18_ := Aside0.mk (bb_ BK381.out hb); have n19_ := Aside0.mk (bb_ BK382.out hb); have n20_ := Aside0.mk (bb_ BK395.out hb); have n21_ := Aside0.mk (bb_ BK396.out hb); have n22_ := Aside0.mk (bb_ BK405.out hb); have n23_ := Aside0.mk (bs_ hb); have n24_ := Aside0.mk (hbox); have n26_ := Aside0.mk ((ge_ hg : w.heap.size ≤ gb414)); have n27_ := Aside0.mk ((by rw [hg]; exact Nat.ne_of_lt (blk_lt (g := gb341) (o := .cells #[.int .i64 a0_0, .slice A0_1 l0_1.length c0_1, .slice A0_2 l0_2.length c0_2] 25 (0, 0)) (by (with_reducible repeat (first | refine blk_drewN ?_ _ | refine blk_drew ?_ | refine blk_alloc ?_ _)); exact BK341.out)) : gb341 ≠ gb414)); have n28_ := Aside0.mk ((by rw [hg]; exact Nat.ne_of_gt (blk_lt (g := gb341) (o := .cells #[.int .i64 a0_0, .slice A0_1 l0_1.length c0_1, .slice A0_2 l0_2.length c0_2] 25 (0, 0)) (by (with_reducible repeat (first | refine blk_drewN ?_ _ | refine blk_drew ?_ | refine blk_alloc ?_ _)); exact BK341.out)) : gb414 ≠ gb341)); have n29_ := Aside0.mk ((by rw [hg]; exact Nat.ne_of_lt (blk_lt (g := gb342) (o := .cells #[.int .u32 a1_0, .slice A1_1 l1_1.length c1_1] 29 (0, 0)) (by (with_reducible repeat (first | refine blk_drewN ?_ _ | refine blk_drew ?_ | refine blk_alloc ?_ _)); exact BK342.out)) : gb342 ≠ gb414)); have n30_ := Aside0.mk ((by rw [hg]; exact Nat.ne_of_gt (blk_lt (g := gb342) (o := .cells #[.int .u32 a1_0, .slice A1_1 l1_1.length c1_1] 29 (0, 0)) (by (with_reducible repeat (first | refine blk_drewN ?_ _ | refine blk_drew ?_ | refine blk_alloc ?_ _)); exact BK342.out)) : gb414 ≠ gb342)); have n31_ := Aside0.mk ((by rw [hg]; exact Nat.ne_of_lt (blk_lt (g := gb359) (o := .cells #[.int .i64 t351, .slice Ao68 t352.length co68, .slice Ao69 t355.length co69] 25 (0, 0)) (by (with_reducible repeat (first | refine blk_drewN ?_ _ | refine blk_drew ?_ | refine blk_alloc ?_ _)); exact BK359.out)) : gb359 ≠ gb414)); have n32_ := Aside0.mk ((by rw [hg]; exact Nat.ne_of_gt (blk_lt (g := gb359) (o := .cells #[.int .i64 t351, .slice Ao68 t352.length co68, .slice Ao69 t355.length co69] 25 (0, 0)) (by (with_reducible repeat (first | refine blk_drewN ?_ _ | refine blk_drew ?_ | refine blk_alloc ?_ _)); exact BK359.out)) : gb414 ≠ gb359)); have n33_ := Aside0.mk ((by rw [hg]; exact Nat.ne_of_lt (blk_lt (g := gb368) (o := .cells #[.int .i64 t360, .slice Ao79 t361.length co79, .slice Ao80 t364.length co80] 25 (0, 0)) (by (with_reducible repeat (first | refine blk_drewN ?_ _ | refine blk_drew ?_ | refine blk_alloc ?_ _)); exact BK368.out)) : gb368 ≠ gb414)); have n34_ := Aside0.mk ((by rw [hg]; exact Nat.ne_of_gt (blk_lt (g := gb368) (o := .cells #[.int .i64 t360, .slice Ao79 t361.length co79, .slice Ao80 t364.length co80] 25 (0, 0)) (by (with_reducible repeat (first | refine blk_drewN ?_ _ | refine blk_drew ?_ | refine blk_alloc ?_ _)); exact BK368.out)) : gb414 ≠ gb368)); have n35_ := Aside0.mk ((by rw [hg]; exact Nat.ne_of_lt (blk_lt (g := gb381) (o := .cells #[.int .i64 t369, .slice Ao92 t370.length co92, .slice Ao93 t373.length co93] 25 (0, 0)) (by (with_reducible repeat (first | refine blk_drewN ?_ _ | refine blk_drew ?_ | refine blk_alloc ?_ _)); exact BK381.out)) : gb381 ≠ gb414)); have n36_ := Aside0.mk ((by rw [hg]; exact Nat.ne_of_gt (blk_lt (g := gb381) (o := .cells #[.int .i64 t369, .slice Ao92 t370.length co92, .slice Ao93 t373.length co93] 25 (0, 0)) (by (with_reducible repeat (first | refine blk_drewN ?_ _ | refine blk_drew ?_ | refine blk_alloc ?_ _)); exact BK381.out)) : gb414 ≠ gb381)); have n37_ := Aside0.mk ((by rw [hg]; exact Nat.ne_of_lt (blk_lt (g := gb382) (o := .cells #[.int .u32 t376, .slice Ao100 t377.length co100] 29 (0, 0)) (by (with_reducible repeat (first | refine blk_drewN ?_ _ | refine blk_drew ?_ | refine blk_alloc ?_ _)); exact BK382.out)) : gb382 ≠ gb414)); have n38_ := Aside0.mk ((by rw [hg]; exact Nat.ne_of_gt (blk_lt (g := gb382) (o := .cells #[.int .u32 t376, .slice Ao100 t377.length co100] 29 (0, 0)) (by (with_reducible repeat (first | refine blk_drewN ?_ _ | refine blk_drew ?_ | refine blk_alloc ?_ _)); exact BK382.out)) : gb414 ≠ gb382)); have n39_ := Aside0.mk ((by rw [hg]; exact Nat.ne_of_lt (blk_lt (g := gb395) (o := .cells #[.int .i64 t383, .slice Ao114 t384.length co114, .slice Ao115 t387.length co115] 25 (0, 0)) (by (with_reducible repeat (first | refine blk_drewN ?_ _ | refine blk_drew ?_ | refine blk_alloc ?_ _)); exact BK395.out)) : gb395 ≠ gb414)); have n40_ := Aside0.mk ((by rw [hg]; exact Nat.ne_of_gt (blk_lt (g := gb395) (o := .cells #[.int .i64 t383, .slice Ao114 t384.length co114, .slice Ao115 t387.length co115] 25 (0, 0)) (by (with_reducible repeat (first | refine blk_drewN ?_ _ | refine blk_drew ?_ | refine blk_alloc ?_ _)); exact BK395.out)) : gb414 ≠ gb395)); have n41_ := Aside0.mk ((by rw [hg]; exact Nat.ne_of_lt (blk_lt (g := gb396) (o := .cells #[.int .u32 t390, .slice Ao124 t391.length co124] 29 (0, 0)) (by (with_reducible repeat (first | refine blk_drewN ?_ _ | refine blk_drew ?_ | refine blk_alloc ?_ _)); exact BK396.out)) : gb396 ≠ gb414)); have n42_ := Aside0.mk ((by rw [hg]; exact Nat.ne_of_gt (blk_lt (g := gb396) (o := .cells #[.int .u32 t390, .slice Ao124 t391.length co124] 29 (0, 0)) (by (with_reducible repeat (first | refine blk_drewN ?_ _ | refine blk_drew ?_ | refine blk_alloc ?_ _)); exact BK396.out)) : gb414 ≠ gb396)); have n43_ := Aside0.mk ((by rw [hg]; exact Nat.ne_of_lt (blk_lt (g := gb405) (o := .cells #[.int .i64 t397, .slice Ao138 t398.length co138, .slice Ao139 t401.length co139] 25 (0, 0)) (by (with_reducible repeat (first | refine blk_drewN ?_ _ | refine blk_drew ?_ | refine blk_alloc ?_ _)); exact BK405.out)) : gb405 ≠ gb414)); have n44_ := Aside0.mk ((by rw [hg]; exact Nat.ne_of_gt (blk_lt (g := gb405) (o := .cells #[.int .i64 t397, .slice Ao138 t398.length co138, .slice Ao139 t401.length co139] 25 (0, 0)) (by (with_reducible repeat (first | refine blk_drewN ?_ _ | refine blk_drew ?_ | refine blk_alloc ?_ _)); exact BK405.out)) : gb414 ≠ gb405)); clear HO354 HO357 HO363 HO366 HO372 HO375 HO379 HO386 HO389 HO393 HO400 HO403 HO409 HO412 BK341 BK342 BK359 BK368 BK381 BK382 BK395 BK396 BK405 HB; have HO354 := n0_; have HO357 := n1_; have HO363 := n2_; have HO366 := n3_; have HO372 := n4_; have HO375 := n5_; have HO379 := n6_; have HO386 := n7_; have HO389 := n8_; have HO393 := n9_; have HO400 := n10_; have HO403 := n11_; have HO409 := n12_; have HO412 := n13_; have BK341 := n14_; have BK342 := n15_; have BK359 := n16_; have BK368 := n17_; have BK381 := n18_; have BK382 := n19_; have BK395 := n20_; have BK396 := n21_; have BK405 := n22_; have HB := n23_; have BK414 := n24_; have GE414 := n26_; have NB341_414 := n27_; have NB414_341 := n28_; have NB342_414 := n29_; have NB414_342 := n30_; have NB359_414 := n31_; have NB414_359 := n32_; have NB368_414 := n33_; have NB414_368 := n34_; have NB381_414 := n35_; have NB414_381 := n36_; have NB382_414 := n37_; have NB414_382 := n38_; have NB395_414 := n39_; have NB414_395 := n40_; have NB396_414 := n41_; have NB414_396 := n42_; have NB405_414 := n43_; have NB414_405 := n44_; clear n0_ n1_ n2_ n3_ n4_ n5_ n6_ n7_ n8_ n9_ n10_ n11_ n12_ n13_ n14_ n15_ n16_ n17_ n18_ n19_ n20_ n21_ n22_ n23_ n24_ n26_ n27_ n28_ n29_ n30_ n31_ n32_ n33_ n34_ n35_ n36_ n37_ n38_ n39_ n40_ n41_ n42_ n43_ n44_; clear hb hbox hg; have hnb144 := NB414_341.out; have hnc144 := NB341_414.out; have hnb145 := NB414_342.out; have hnc145 := NB342_414.out; have hnb146 := NB414_359.out; have hnc146 := NB359_414.out; have hnb147 := NB414_368.out; have hnc147 := NB368_414.out; have hnb148 := NB414_381.out; have hnc148 := NB381_414.out; have hnb149 := NB414_382.out; have hnc149 := NB382_414.out; have hnb150 := NB414_395.out; have hnc150 := NB395_414.out; have hnb151 := NB414_396.out; have hnc151 := NB396_414.out; have hnb152 := NB414_405.out; have hnc152 := NB405_414.out; have ⟨hcz153_0, hcz153_1, hcz153_2⟩ := cz3_ BK414.out; have ⟨hfz153_0, hfz153_1, hfz153_2⟩ := fz3_ BK414.out; obtain ⟨Ao154, co154, eo154⟩ := Kd.V_slice HO409.out; subst eo154; obtain ⟨Ao155, co155, eo155⟩ := Kd.V_slice HO412.out; subst eo155))
              have n0_ : Aside0 (Kd.V k29 29 (((w143.setCell ⟨gb414, 0, none⟩ (.int .i64 t406)).setCell ⟨gb414, 1, none⟩ (.slice Ao154 t407.length co154)).setCell ⟨gb414, 2, none⟩ (.slice Ao155 t410.length co155)) w.heap.size (fun k_ => k_ ≠ gb341 ∧ k_ ≠ gb342 ∧ k_ ≠ gb359 ∧ k_ ≠ gb368 ∧ k_ ≠ gb381 ∧ k_ ≠ gb382 ∧ k_ ≠ gb395 ∧ k_ ≠ gb396 ∧ k_ ≠ gb405 ∧ k_ ≠ gb414) (.slice Ao68 t352.length co68) t352) := ⟨by (with_reducible repeat (first | apply Kd.V_alloc | apply Kd.V_drewN | apply Kd.V_drew)); exact Kd.V_mono (v3_ (g := gb414) (Kd.V_mono HO354.out (fun k_ hk => (⟨hk, hk.2⟩ : _ ∧ k_ ≠ gb414)))) (fun _ hk => ⟨hk.1.1.1, ⟨hk.1.1.2.1, ⟨hk.1.1.2.2.1, ⟨hk.1.1.2.2.2.1, ⟨hk.1.1.2.2.2.2.1, ⟨hk.1.1.2.2.2.2.2.1, ⟨hk.1.1.2.2.2.2.2.2.1, ⟨hk.1.1.2.2.2.2.2.2.2.1, ⟨hk.1.1.2.2.2.2.2.2.2.2, hk.1.2⟩⟩⟩⟩⟩⟩⟩⟩⟩)⟩
              have n1_ : Aside0 (Kd.V (Kd.slice 26 (Kd.int .u32)) 27 (((w143.setCell ⟨gb414, 0, none⟩ (.int .i64 t406)).setCell ⟨gb414, 1, none⟩ (.slice Ao154 t407.length co154)).setCell ⟨gb414, 2, none⟩ (.slice Ao155 t410.length co155)) w.heap.size (fun k_ => k_ ≠ gb341 ∧ k_ ≠ gb342 ∧ k_ ≠ gb359 ∧ k_ ≠ gb368 ∧ k_ ≠ gb381 ∧ k_ ≠ gb382 ∧ k_ ≠ gb395 ∧ k_ ≠ gb396 ∧ k_ ≠ gb405 ∧ k_ ≠ gb414) (.slice Ao69 t355.length co69) t355) := ⟨by (with_reducible repeat (first | apply Kd.V_alloc | apply Kd.V_drewN | apply Kd.V_drew)); exact Kd.V_mono (v3_ (g := gb414) (Kd.V_mono HO357.out (fun k_ hk => (⟨hk, hk.2⟩ : _ ∧ k_ ≠ gb414)))) (fun _ hk => ⟨hk.1.1.1, ⟨hk.1.1.2.1, ⟨hk.1.1.2.2.1, ⟨hk.1.1.2.2.2.1, ⟨hk.1.1.2.2.2.2.1, ⟨hk.1.1.2.2.2.2.2.1, ⟨hk.1.1.2.2.2.2.2.2.1, ⟨hk.1.1.2.2.2.2.2.2.2.1, ⟨hk.1.1.2.2.2.2.2.2.2.2, hk.1.2⟩⟩⟩⟩⟩⟩⟩⟩⟩)⟩
              have n2_ : Aside0 (Kd.V k29 29 (((w143.setCell ⟨gb414, 0, none⟩ (.int .i64 t406)).setCell ⟨gb414, 1, none⟩ (.slice Ao154 t407.length co154)).setCell ⟨gb414, 2, none⟩ (.slice Ao155 t410.length co155)) w.heap.size (fun k_ => k_ ≠ gb341 ∧ k_ ≠ gb342 ∧ k_ ≠ gb359 ∧ k_ ≠ gb368 ∧ k_ ≠ gb381 ∧ k_ ≠ gb382 ∧ k_ ≠ gb395 ∧ k_ ≠ gb396 ∧ k_ ≠ gb405 ∧ k_ ≠ gb414) (.slice Ao79 t361.length co79) t361) := ⟨by (with_reducible repeat (first | apply Kd.V_alloc | apply Kd.V_drewN | apply Kd.V_drew)); exact Kd.V_mono (v3_ (g := gb414) (Kd.V_mono HO363.out (fun k_ hk => (⟨hk, hk.2⟩ : _ ∧ k_ ≠ gb414)))) (fun _ hk => ⟨hk.1.1.1, ⟨hk.1.1.2.1, ⟨hk.1.1.2.2.1, ⟨hk.1.1.2.2.2.1, ⟨hk.1.1.2.2.2.2.1, ⟨hk.1.1.2.2.2.2.2.1, ⟨hk.1.1.2.2.2.2.2.2.1, ⟨hk.1.1.2.2.2.2.2.2.2.1, ⟨hk.1.1.2.2.2.2.2.2.2.2, hk.1.2⟩⟩⟩⟩⟩⟩⟩⟩⟩)⟩
              have n3_ : Aside0 (Kd.V (Kd.slice 26 (Kd.int .u32)) 27 (((w143.setCell ⟨gb414, 0, none⟩ (.int .i64 t406)).setCell ⟨gb414, 1, none⟩ (.slice Ao154 t407.length co154)).setCell ⟨gb414, 2, none⟩ (.slice Ao155 t410.length co155)) w.heap.size (fun k_ => k_ ≠ gb341 ∧ k_ ≠ gb342 ∧ k_ ≠ gb359 ∧ k_ ≠ gb368 ∧ k_ ≠ gb381 ∧ k_ ≠ gb382 ∧ k_ ≠ gb395 ∧ k_ ≠ gb396 ∧ k_ ≠ gb405 ∧ k_ ≠ gb414) (.slice Ao80 t364.length co80) t364) := ⟨by (with_reducible repeat (first | apply Kd.V_alloc | apply Kd.V_drewN | apply Kd.V_drew)); exact Kd.V_mono (v3_ (g := gb414) (Kd.V_mono HO366.out (fun k_ hk => (⟨hk, hk.2⟩ : _ ∧ k_ ≠ gb414)))) (fun _ hk => ⟨hk.1.1.1, ⟨hk.1.1.2.1, ⟨hk.1.1.2.2.1, ⟨hk.1.1.2.2.2.1, ⟨hk.1.1.2.2.2.2.1, ⟨hk.1.1.2.2.2.2.2.1, ⟨hk.1.1.2.2.2.2.2.2.1, ⟨hk.1.1.2.2.2.2.2.2.2.1, ⟨hk.1.1.2.2.2.2.2.2.2.2, hk.1.2⟩⟩⟩⟩⟩⟩⟩⟩⟩)⟩
              have n4_ : Aside0 (Kd.V k29 29 (((w143.setCell ⟨gb414, 0, none⟩ (.int .i64 t406)).setCell ⟨gb414, 1, none⟩ (.slice Ao154 t407.length co154)).setCell ⟨gb414, 2, none⟩ (.slice Ao155 t410.length co155)) w.heap.size (fun k_ => k_ ≠ gb341 ∧ k_ ≠ gb342 ∧ k_ ≠ gb359 ∧ k_ ≠ gb368 ∧ k_ ≠ gb381 ∧ k_ ≠ gb382 ∧ k_ ≠ gb395 ∧ k_ ≠ gb396 ∧ k_ ≠ gb405 ∧ k_ ≠ gb414) (.slice Ao92 t370.length co92) t370) := ⟨by (with_reducible repeat (first | apply Kd.V_alloc | apply Kd.V_drewN | apply Kd.V_drew)); exact Kd.V_mono (v3_ (g := gb414) (Kd.V_mono HO372.out (fun k_ hk => (⟨hk, hk.2⟩ : _ ∧ k_ ≠ gb414)))) (fun _ hk => ⟨hk.1.1.1, ⟨hk.1.1.2.1, ⟨hk.1.1.2.2.1, ⟨hk.1.1.2.2.2.1, ⟨hk.1.1.2.2.2.2.1, ⟨hk.1.1.2.2.2.2.2.1, ⟨hk.1.1.2.2.2.2.2.2.1, ⟨hk.1.1.2.2.2.2.2.2.2.1, ⟨hk.1.1.2.2.2.2.2.2.2.2, hk.1.2⟩⟩⟩⟩⟩⟩⟩⟩⟩)⟩
              have n5_ : Aside0 (Kd.V (Kd.slice 26 (Kd.int .u32)) 27 (((w143.setCell ⟨gb414, 0, none⟩ (.int .i64 t406)).setCell ⟨gb414, 1, none⟩ (.slice Ao154 t407.length co154)).setCell ⟨gb414, 2, none⟩ (.slice Ao155 t410.length co155)) w.heap.size (fun k_ => k_ ≠ gb341 ∧ k_ ≠ gb342 ∧ k_ ≠ gb359 ∧ k_ ≠ gb368 ∧ k_ ≠ gb381 ∧ k_ ≠ gb382 ∧ k_ ≠ gb395 ∧ k_ ≠ gb396 ∧ k_ ≠ gb405 ∧ k_ ≠ gb414) (.slice Ao93 t373.length co93) t373) := ⟨by (with_reducible repeat (first | apply Kd.V_alloc | apply Kd.V_drewN | apply Kd.V_drew)); exact Kd.V_mono (v3_ (g := gb414) (Kd.V_mono HO375.out (fun k_ hk => (⟨hk, hk.2⟩ : _ ∧ k_ ≠ gb414)))) (fun _ hk => ⟨hk.1.1.1, ⟨hk.1.1.2.1, ⟨hk.1.1.2.2.1, ⟨hk.1.1.2.2.2.1, ⟨hk.1.1.2.2.2.2.1, ⟨hk.1.1.2.2.2.2.2.1, ⟨hk.1.1.2.2.2.2.2.2.1, ⟨hk.1.1.2.2.2.2.2.2.2.1, ⟨hk.1.1.2.2.2.2.2.2.2.2, hk.1.2⟩⟩⟩⟩⟩⟩⟩⟩⟩)⟩
              have n6_ : Aside0 (Kd.V (Kd.int .u32) 26 (((w143.setCell ⟨gb414, 0, none⟩ (.int .i64 t406)).setCell ⟨gb414, 1, none⟩ (.slice Ao154 t407.length co154)).setCell ⟨gb414, 2, none⟩ (.slice Ao155 t410.length co155)) w.heap.size (fun k_ => k_ ≠ gb341 ∧ k_ ≠ gb342 ∧ k_ ≠ gb359 ∧ k_ ≠ gb368 ∧ k_ ≠ gb381 ∧ k_ ≠ gb382 ∧ k_ ≠ gb395 ∧ k_ ≠ gb396 ∧ k_ ≠ gb405 ∧ k_ ≠ gb414) (.slice Ao100 t377.length co100) t377) := ⟨by (with_reducible repeat (first | apply Kd.V_alloc | apply Kd.V_drewN | apply Kd.V_drew)); exact Kd.V_mono (v3_ (g := gb414) (Kd.V_mono HO379.out (fun k_ hk => (⟨hk, hk.2⟩ : _ ∧ k_ ≠ gb414)))) (fun _ hk => ⟨hk.1.1.1, ⟨hk.1.1.2.1, ⟨hk.1.1.2.2.1, ⟨hk.1.1.2.2.2.1, ⟨hk.1.1.2.2.2.2.1, ⟨hk.1.1.2.2.2.2.2.1, ⟨hk.1.1.2.2.2.2.2.2.1, ⟨hk.1.1.2.2.2.2.2.2.2.1, ⟨hk.1.1.2.2.2.2.2.2.2.2, hk.1.2⟩⟩⟩⟩⟩⟩⟩⟩⟩)⟩
              have n7_ : Aside0 (Kd.V k29 29 (((w143.setCell ⟨gb414, 0, none⟩ (.int .i64 t406)).setCell ⟨gb414, 1, none⟩ (.slice Ao154 t407.length co154)).setCell ⟨gb414, 2, none⟩ (.slice Ao155 t410.length co155)) w.heap.size (fun k_ => k_ ≠ gb341 ∧ k_ ≠ gb342 ∧ k_ ≠ gb359 ∧ k_ ≠ gb368 ∧ k_ ≠ gb381 ∧ k_ ≠ gb382 ∧ k_ ≠ gb395 ∧ k_ ≠ gb396 ∧ k_ ≠ gb405 ∧ k_ ≠ gb414) (.slice Ao114 t384.length co114) t384) := ⟨by (with_reducible repeat (first | apply Kd.V_alloc | apply Kd.V_drewN | apply Kd.V_drew)); exact Kd.V_mono (v3_ (g := gb414) (Kd.V_mono HO386.out (fun k_ hk => (⟨hk, hk.2⟩ : _ ∧ k_ ≠ gb414)))) (fun _ hk => ⟨hk.1.1.1, ⟨hk.1.1.2.1, ⟨hk.1.1.2.2.1, ⟨hk.1.1.2.2.2.1, ⟨hk.1.1.2.2.2.2.1, ⟨hk.1.1.2.2.2.2.2.1, ⟨hk.1.1.2.2.2.2.2.2.1, ⟨hk.1.1.2.2.2.2.2.2.2.1, ⟨hk.1.1.2.2.2.2.2.2.2.2, hk.1.2⟩⟩⟩⟩⟩⟩⟩⟩⟩)⟩
              have n8_ : Aside0 (Kd.V (Kd.slice 26 (Kd.int .u32)) 27 (((w143.setCell ⟨gb414, 0, none⟩ (.int .i64 t406)).setCell ⟨gb414, 1, none⟩ (.slice Ao154 t407.length co154)).setCell ⟨gb414, 2, none⟩ (.slice Ao155 t410.length co155)) w.heap.size (fun k_ => k_ ≠ gb341 ∧ k_ ≠ gb342 ∧ k_ ≠ gb359 ∧ k_ ≠ gb368 ∧ k_ ≠ gb381 ∧ k_ ≠ gb382 ∧ k_ ≠ gb395 ∧ k_ ≠ gb396 ∧ k_ ≠ gb405 ∧ k_ ≠ gb414) (.slice Ao115 t387.length co115) t387) := ⟨by (with_reducible repeat (first | apply Kd.V_alloc | apply Kd.V_drewN | apply Kd.V_drew)); exact Kd.V_mono (v3_ (g := gb414) (Kd.V_mono HO389.out (fun k_ hk => (⟨hk, hk.2⟩ : _ ∧ k_ ≠ gb414)))) (fun _ hk => ⟨hk.1.1.1, ⟨hk.1.1.2.1, ⟨hk.1.1.2.2.1, ⟨hk.1.1.2.2.2.1, ⟨hk.1.1.2.2.2.2.1, ⟨hk.1.1.2.2.2.2.2.1, ⟨hk.1.1.2.2.2.2.2.2.1, ⟨hk.1.1.2.2.2.2.2.2.2.1, ⟨hk.1.1.2.2.2.2.2.2.2.2, hk.1.2⟩⟩⟩⟩⟩⟩⟩⟩⟩)⟩
              have n9_ : Aside0 (Kd.V (Kd.int .u32) 26 (((w143.setCell ⟨gb414, 0, none⟩ (.int .i64 t406)).setCell ⟨gb414, 1, none⟩ (.slice Ao154 t407.length co154)).setCell ⟨gb414, 2, none⟩ (.slice Ao155 t410.length co155)) w.heap.size (fun k_ => k_ ≠ gb341 ∧ k_ ≠ gb342 ∧ k_ ≠ gb359 ∧ k_ ≠ gb368 ∧ k_ ≠ gb381 ∧ k_ ≠ gb382 ∧ k_ ≠ gb395 ∧ k_ ≠ gb396 ∧ k_ ≠ gb405 ∧ k_ ≠ gb414) (.slice Ao124 t391.length co124) t391) := ⟨by (with_reducible repeat (first | apply Kd.V_alloc | apply Kd.V_drewN | apply Kd.V_drew)); exact Kd.V_mono (v3_ (g := gb414) (Kd.V_mono HO393.out (fun k_ hk => (⟨hk, hk.2⟩ : _ ∧ k_ ≠ gb414)))) (fun _ hk => ⟨hk.1.1.1, ⟨hk.1.1.2.1, ⟨hk.1.1.2.2.1, ⟨hk.1.1.2.2.2.1, ⟨hk.1.1.2.2.2.2.1, ⟨hk.1.1.2.2.2.2.2.1, ⟨hk.1.1.2.2.2.2.2.2.1, ⟨hk.1.1.2.2.2.2.2.2.2.1, ⟨hk.1.1.2.2.2.2.2.2.2.2, hk.1.2⟩⟩⟩⟩⟩⟩⟩⟩⟩)⟩
              have n10_ : Aside0 (Kd.V k29 29 (((w143.setCell ⟨gb414, 0, none⟩ (.int .i64 t406)).setCell ⟨gb414, 1, none⟩ (.slice Ao154 t407.length co154)).setCell ⟨gb414, 2, none⟩ (.slice Ao155 t410.length co155)) w.heap.size (fun k_ => k_ ≠ gb341 ∧ k_ ≠ gb342 ∧ k_ ≠ gb359 ∧ k_ ≠ gb368 ∧ k_ ≠ gb381 ∧ k_ ≠ gb382 ∧ k_ ≠ gb395 ∧ k_ ≠ gb396 ∧ k_ ≠ gb405 ∧ k_ ≠ gb414) (.slice Ao138 t398.length co138) t398) := ⟨by (with_reducible repeat (first | apply Kd.V_alloc | apply Kd.V_drewN | apply Kd.V_drew)); exact Kd.V_mono (v3_ (g := gb414) (Kd.V_mono HO400.out (fun k_ hk => (⟨hk, hk.2⟩ : _ ∧ k_ ≠ gb414)))) (fun _ hk => ⟨hk.1.1.1, ⟨hk.1.1.2.1, ⟨hk.1.1.2.2.1, ⟨hk.1.1.2.2.2.1, ⟨hk.1.1.2.2.2.2.1, ⟨hk.1.1.2.2.2.2.2.1, ⟨hk.1.1.2.2.2.2.2.2.1, ⟨hk.1.1.2.2.2.2.2.2.2.1, ⟨hk.1.1.2.2.2.2.2.2.2.2, hk.1.2⟩⟩⟩⟩⟩⟩⟩⟩⟩)⟩
              have n11_ : Aside0 (Kd.V (Kd.slice 26 (Kd.int .u32)) 27 (((w143.setCell ⟨gb414, 0, none⟩ (.int .i64 t406)).setCell ⟨gb414, 1, none⟩ (.slice Ao154 t407.length co154)).setCell ⟨gb414, 2, none⟩ (.slice Ao155 t410.length co155)) w.heap.size (fun k_ => k_ ≠ gb341 ∧ k_ ≠ gb342 ∧ k_ ≠ gb359 ∧ k_ ≠ gb368 ∧ k_ ≠ gb381 ∧ k_ ≠ gb382 ∧ k_ ≠ gb395 ∧ k_ ≠ gb396 ∧ k_ ≠ gb405 ∧ k_ ≠ gb414) (.slice Ao139 t401.length co139) t401) := ⟨by (with_reducible repeat (first | apply Kd.V_alloc | apply Kd.V_drewN | apply Kd.V_drew)); exact Kd.V_mono (v3_ (g := gb414) (Kd.V_mono HO403.out (fun k_ hk => (⟨hk, hk.2⟩ : _ ∧ k_ ≠ gb414)))) (fun _ hk => ⟨hk.1.1.1, ⟨hk.1.1.2.1, ⟨hk.1.1.2.2.1, ⟨hk.1.1.2.2.2.1, ⟨hk.1.1.2.2.2.2.1, ⟨hk.1.1.2.2.2.2.2.1, ⟨hk.1.1.2.2.2.2.2.2.1, ⟨hk.1.1.2.2.2.2.2.2.2.1, ⟨hk.1.1.2.2.2.2.2.2.2.2, hk.1.2⟩⟩⟩⟩⟩⟩⟩⟩⟩)⟩
              have n12_ : Aside0 (Kd.V k29 29 (((w143.setCell ⟨gb414, 0, none⟩ (.int .i64 t406)).setCell ⟨gb414, 1, none⟩ (.slice Ao154 t407.length co154)).setCell ⟨gb414, 2, none⟩ (.slice Ao155 t410.length co155)) w.heap.size (fun k_ => k_ ≠ gb341 ∧ k_ ≠ gb342 ∧ k_ ≠ gb359 ∧ k_ ≠ gb368 ∧ k_ ≠ gb381 ∧ k_ ≠ gb382 ∧ k_ ≠ gb395 ∧ k_ ≠ gb396 ∧ k_ ≠ gb405 ∧ k_ ≠ gb414) (.slice Ao154 t407.length co154) t407) := ⟨by (with_reducible repeat (first | apply Kd.V_alloc | apply Kd.V_drewN | apply Kd.V_drew)); exact Kd.V_mono (v3_ (g := gb414) (Kd.V_mono HO409.out (fun k_ hk => (⟨hk, hk.2⟩ : _ ∧ k_ ≠ gb414)))) (fun _ hk => ⟨hk.1.1.1, ⟨hk.1.1.2.1, ⟨hk.1.1.2.2.1, ⟨hk.1.1.2.2.2.1, ⟨hk.1.1.2.2.2.2.1, ⟨hk.1.1.2.2.2.2.2.1, ⟨hk.1.1.2.2.2.2.2.2.1, ⟨hk.1.1.2.2.2.2.2.2.2.1, ⟨hk.1.1.2.2.2.2.2.2.2.2, hk.1.2⟩⟩⟩⟩⟩⟩⟩⟩⟩)⟩
              have n13_ : Aside0 (Kd.V (Kd.slice 26 (Kd.int .u32)) 27 (((w143.setCell ⟨gb414, 0, none⟩ (.int .i64 t406)).setCell ⟨gb414, 1, none⟩ (.slice Ao154 t407.length co154)).setCell ⟨gb414, 2, none⟩ (.slice Ao155 t410.length co155)) w.heap.size (fun k_ => k_ ≠ gb341 ∧ k_ ≠ gb342 ∧ k_ ≠ gb359 ∧ k_ ≠ gb368 ∧ k_ ≠ gb381 ∧ k_ ≠ gb382 ∧ k_ ≠ gb395 ∧ k_ ≠ gb396 ∧ k_ ≠ gb405 ∧ k_ ≠ gb414) (.slice Ao155 t410.length co155) t410) := ⟨by (with_reducible repeat (first | apply Kd.V_alloc | apply Kd.V_drewN | apply Kd.V_drew)); exact Kd.V_mono (v3_ (g := gb414) (Kd.V_mono HO412.out (fun k_ hk => (⟨hk, hk.2⟩ : _ ∧ k_ ≠ gb414)))) (fun _ hk => ⟨hk.1.1.1, ⟨hk.1.1.2.1, ⟨hk.1.1.2.2.1, ⟨hk.1.1.2.2.2.1, ⟨hk.1.1.2.2.2.2.1, ⟨hk.1.1.2.2.2.2.2.1, ⟨hk.1.1.2.2.2.2.2.2.1, ⟨hk.1.1.2.2.2.2.2.2.2.1, ⟨hk.1.1.2.2.2.2.2.2.2.2, hk.1.2⟩⟩⟩⟩⟩⟩⟩⟩⟩)⟩
              have n14_ : Aside0 ((((w143.setCell ⟨gb414, 0, none⟩ (.int .i64 t406)).setCell ⟨gb414, 1, none⟩ (.slice Ao154 t407.length co154)).setCell ⟨gb414, 2, none⟩ (.slice Ao155 t410.length co155)).heap[gb341]? = some (.cells #[.int .i64 a0_0, .slice A0_1 l0_1.length c0_1, .slice A0_2 l0_2.length c0_2] 25 (0, 0))) := ⟨by (with_reducible repeat (first | refine blk_drewN ?_ _ | refine blk_drew ?_ | refine blk_alloc ?_ _)); refine blk_far ?_ NB341_414.out _; (with_reducible repeat (first | refine blk_drewN ?_ _ | refine blk_drew ?_ | refine blk_alloc ?_ _)); refine blk_far ?_ NB341_414.out _; (with_reducible repeat (first | refine blk_drewN ?_ _ | refine blk_drew ?_ | refine blk_alloc ?_ _)); refine blk_far ?_ NB341_414.out _; (with_reducible repeat (first | refine blk_drewN ?_ _ | refine blk_drew ?_ | refine blk_alloc ?_ _)); exact BK341.out⟩
              have n15_ : Aside0 ((((w143.setCell ⟨gb414, 0, none⟩ (.int .i64 t406)).setCell ⟨gb414, 1, none⟩ (.slice Ao154 t407.length co154)).setCell ⟨gb414, 2, none⟩ (.slice Ao155 t410.length co155)).heap[gb342]? = some (.cells #[.int .u32 a1_0, .slice A1_1 l1_1.length c1_1] 29 (0, 0))) := ⟨by (with_reducible repeat (first | refine blk_drewN ?_ _ | refine blk_drew ?_ | refine blk_alloc ?_ _)); refine blk_far ?_ NB342_414.out _; (with_reducible repeat (first | refine blk_drewN ?_ _ | refine blk_drew ?_ | refine blk_alloc ?_ _)); refine blk_far ?_ NB342_414.out _; (with_reducible repeat (first | refine blk_drewN ?_ _ | refine blk_drew ?_ | refine blk_alloc ?_ _)); refine blk_far ?_ NB342_414.out _; (with_reducible repeat (first | refine blk_drewN ?_ _ | refine blk_drew ?_ | refine blk_alloc ?_ _)); exact BK342.out⟩
              have n16_ : Aside0 ((((w143.setCell ⟨gb414, 0, none⟩ (.int .i64 t406)).setCell ⟨gb414, 1, none⟩ (.slice Ao154 t407.length co154)).setCell ⟨gb414, 2, none⟩ (.slice Ao155 t410.length co155)).heap[gb359]? = some (.cells #[.int .i64 t351, .slice Ao68 t352.length co68, .slice Ao69 t355.length co69] 25 (0, 0))) := ⟨by (with_reducible repeat (first | refine blk_drewN ?_ _ | refine blk_drew ?_ | refine blk_alloc ?_ _)); refine blk_far ?_ NB359_414.out _; (with_reducible repeat (first | refine blk_drewN ?_ _ | refine blk_drew ?_ | refine blk_alloc ?_ _)); refine blk_far ?_ NB359_414.out _; (with_reducible repeat (first | refine blk_drewN ?_ _ | refine blk_drew ?_ | refine blk_alloc ?_ _)); refine blk_far ?_ NB359_414.out _; (with_reducible repeat (first | refine blk_drewN ?_ _ | refine blk_drew ?_ | refine blk_alloc ?_ _)); exact BK359.out⟩
              have n17_ : Aside0 ((((w143.setCell ⟨gb414, 0, none⟩ (.int .i64 t406)).setCell ⟨gb414, 1, none⟩ (.slice Ao154 t407.length co154)).setCell ⟨gb414, 2, none⟩ (.slice Ao155 t410.length co155)).heap[gb368]? = some (.cells #[.int .i64 t360, .slice Ao79 t361.length co79, .slice Ao80 t364.length co80] 25 (0, 0))) := ⟨by (with_reducible repeat (first | refine blk_drewN ?_ _ | refine blk_drew ?_ | refine blk_alloc ?_ _)); refine blk_far ?_ NB368_414.out _; (with_reducible repeat (first | refine blk_drewN ?_ _ | refine blk_drew ?_ | refine blk_alloc ?_ _)); refine blk_far ?_ NB368_414.out _; (with_reducible repeat (first | refine blk_drewN ?_ _ | refine blk_drew ?_ | refine blk_alloc ?_ _)); refine blk_far ?_ NB368_414.out _; (with_reducible repeat (first | refine blk_drewN ?_ _ | refine blk_drew ?_ | refine blk_alloc ?_ _)); exact BK368.out⟩
              have n18_ : Aside0 ((((w143.setCell ⟨gb414, 0, none⟩ (.int .i64 t406)).setCell ⟨gb414, 1, none⟩ (.slice Ao154 t407.length co154)).setCell ⟨gb414, 2, none⟩ (.slice Ao155 t410.length co155)).heap[gb381]? = some (.cells #[.int .i64 t369, .slice Ao92 t370.length co92, .slice Ao93 t373.length co93] 25 (0, 0))) := ⟨by (with_reducible repeat (first | refine blk_drewN ?_ _ | refine blk_drew ?_ | refine blk_alloc ?_ _)); refine blk_far ?_ NB381_414.out _; (with_reducible repeat (first | refine blk_drewN ?_ _ | refine blk_drew ?_ | refine blk_alloc ?_ _)); refine blk_far ?_ NB381_414.out _; (with_reducible repeat (first | refine blk_drewN ?_ _ | refine blk_drew ?_ | refine blk_alloc ?_ _)); refine blk_far ?_ NB381_414.out _; (with_reducible repeat (first | refine blk_drewN ?_ _ | refine blk_drew ?_ | refine blk_alloc ?_ _)); exact BK381.out⟩
              have n19_ : Aside0 ((((w143.setCell ⟨gb414, 0, none⟩ (.int .i64 t406)).setCell ⟨gb414, 1, none⟩ (.slice Ao154 t407.length co154)).setCell ⟨gb414, 2, none⟩ (.slice Ao155 t410.length co155)).heap[gb382]? = some (.cells #[.int .u32 t376, .slice Ao100 t377.length co100] 29 (0, 0))) := ⟨by (with_reducible repeat (first | refine blk_drewN ?_ _ | refine blk_drew ?_ | refine blk_alloc ?_ _)); refine blk_far ?_ NB382_414.out _; (with_reducible repeat (first | refine blk_drewN ?_ _ | refine blk_drew ?_ | refine blk_alloc ?_ _)); refine blk_far ?_ NB382_414.out _; (with_reducible repeat (first | refine blk_drewN ?_ _ | refine blk_drew ?_ | refine blk_alloc ?_ _)); refine blk_far ?_ NB382_414.out _; (with_reducible repeat (first | refine blk_drewN ?_ _ | refine blk_drew ?_ | refine blk_alloc ?_ _)); exact BK382.out⟩
              have n20_ : Aside0 ((((w143.setCell ⟨gb414, 0, none⟩ (.int .i64 t406)).setCell ⟨gb414, 1, none⟩ (.slice Ao154 t407.length co154)).setCell ⟨gb414, 2, none⟩ (.slice Ao155 t410.length co155)).heap[gb395]? = some (.cells #[.int .i64 t383, .slice Ao114 t384.length co114, .slice Ao115 t387.length co115] 25 (0, 0))) := ⟨by (with_reducible repeat (first | refine blk_drewN ?_ _ | refine blk_drew ?_ | refine blk_alloc ?_ _)); refine blk_far ?_ NB395_414.out _; (with_reducible repeat (first | refine blk_drewN ?_ _ | refine blk_drew ?_ | refine blk_alloc ?_ _)); refine blk_far ?_ NB395_414.out _; (with_reducible repeat (first | refine blk_drewN ?_ _ | refine blk_drew ?_ | refine blk_alloc ?_ _)); refine blk_far ?_ NB395_414.out _; (with_reducible repeat (first | refine blk_drewN ?_ _ | refine blk_drew ?_ | refine blk_alloc ?_ _)); exact BK395.out⟩
              have n21_ : Aside0 ((((w143.setCell ⟨gb414, 0, none⟩ (.int .i64 t406)).setCell ⟨gb414, 1, none⟩ (.slice Ao154 t407.length co154)).setCell ⟨gb414, 2, none⟩ (.slice Ao155 t410.length co155)).heap[gb396]? = some (.cells #[.int .u32 t390, .slice Ao124 t391.length co124] 29 (0, 0))) := ⟨by (with_reducible repeat (first | refine blk_drewN ?_ _ | refine blk_drew ?_ | refine blk_alloc ?_ _)); refine blk_far ?_ NB396_414.out _; (with_reducible repeat (first | refine blk_drewN ?_ _ | refine blk_drew ?_ | refine blk_alloc ?_ _)); refine blk_far ?_ NB396_414.out _; (with_reducible repeat (first | refine blk_drewN ?_ _ | refine blk_drew ?_ | refine blk_alloc ?_ _)); refine blk_far ?_ NB396_414.out _; (with_reducible repeat (first | refine blk_drewN ?_ _ | refine blk_drew ?_ | refine blk_alloc ?_ _)); exact BK396.out⟩
              have n22_ : Aside0 ((((w143.setCell ⟨gb414, 0, none⟩ (.int .i64 t406)).setCell ⟨gb414, 1, none⟩ (.slice Ao154 t407.length co154)).setCell ⟨gb414, 2, none⟩ (.slice Ao155 t410.length co155)).heap[gb405]? = some (.cells #[.int .i64 t397, .slice Ao138 t398.length co138, .slice Ao139 t401.length co139] 25 (0, 0))) := ⟨by (with_reducible repeat (first | refine blk_drewN ?_ _ | refine blk_drew ?_ | refine blk_alloc ?_ _)); refine blk_far ?_ NB405_414.out _; (with_reducible repeat (first | refine blk_drewN ?_ _ | refine blk_drew ?_ | refine blk_alloc ?_ _)); refine blk_far ?_ NB405_414.out _; (with_reducible repeat (first | refine blk_drewN ?_ _ | refine blk_drew ?_ | refine blk_alloc ?_ _)); refine blk_far ?_ NB405_414.out _; (with_reducible repeat (first | refine blk_drewN ?_ _ | refine blk_drew ?_ | refine blk_alloc ?_ _)); exact BK405.out⟩
              have n23_ : Aside0 ((((w143.setCell ⟨gb414, 0, none⟩ (.int .i64 t406)).setCell ⟨gb414, 1, none⟩ (.slice Ao154 t407.length co154)).setCell ⟨gb414, 2, none⟩ (.slice Ao155 t410.length co155)).heap[gb414]? = some (.cells #[.int .i64 t406, .slice Ao154 t407.length co154, .slice Ao155 t410.length co155] 25 (0, 0))) := ⟨by (with_reducible repeat (first | refine blk_drewN ?_ _ | refine blk_drew ?_ | refine blk_alloc ?_ _)); refine blk_put (cs := #[.int .i64 t406, .slice Ao154 t407.length co154, .slice none 0 0]) ?_ 2 _ rfl; (with_reducible repeat (first | refine blk_drewN ?_ _ | refine blk_drew ?_ | refine blk_alloc ?_ _)); refine blk_put (cs := #[.int .i64 t406, .slice none 0 0, .slice none 0 0]) ?_ 1 _ rfl; (with_reducible repeat (first | refine blk_drewN ?_ _ | refine blk_drew ?_ | refine blk_alloc ?_ _)); refine blk_put (cs := #[.int .i64 0, .slice none 0 0, .slice none 0 0]) ?_ 0 _ rfl; (with_reducible repeat (first | refine blk_drewN ?_ _ | refine blk_drew ?_ | refine blk_alloc ?_ _)); exact BK414.out⟩
              have n24_ : Aside0 (Below w.heap.size w (((w143.setCell ⟨gb414, 0, none⟩ (.int .i64 t406)).setCell ⟨gb414, 1, none⟩ (.slice Ao154 t407.length co154)).setCell ⟨gb414, 2, none⟩ (.slice Ao155 t410.length co155))) := ⟨by repeat (first | (with_reducible first | exact HB.out | apply below_alloc | apply pw_below_drewN | apply below_drew1 | refine below_set ?_ GE341.out | refine below_set ?_ GE342.out | refine below_set ?_ GE359.out | refine below_set ?_ GE368.out | refine below_set ?_ GE381.out | refine below_set ?_ GE382.out | refine below_set ?_ GE395.out | refine below_set ?_ GE396.out | refine below_set ?_ GE405.out | refine below_set ?_ GE414.out) | exact HB.out)⟩
              (try clear HO354)
              (try clear HO357)
              (try clear HO363)
              (try clear HO366)
              (try clear HO372)
              (try clear HO375)
              (try clear HO379)
              (try clear HO386)
              (try clear HO389)
              (try clear HO393)
              (try clear HO400)
              (try clear HO403)
              (try clear HO409)
              (try clear HO412)
              (try clear BK341)
              (try clear BK342)
              (try clear BK359)
              (try clear BK368)
              (try clear BK381)
              (try clear BK382)
              (try clear BK395)
              (try clear BK396)
              (try clear BK405)
              (try clear BK414)
              (try clear HB)
              generalize (((w143.setCell ⟨gb414, 0, none⟩ (.int .i64 t406)).setCell ⟨gb414, 1, none⟩ (.slice Ao154 t407.length co154)).setCell ⟨gb414, 2, none⟩ (.slice Ao155 t410.length co155)) = w156 at n0_ n1_ n2_ n3_ n4_ n5_ n6_ n7_ n8_ n9_ n10_ n11_ n12_ n13_ n14_ n15_ n16_ n17_ n18_ n19_ n20_ n21_ n22_ n23_ n24_ ⊢
              have HO354 := n0_
              have HO357 := n1_
              have HO363 := n2_
              have HO366 := n3_
              have HO372 := n4_
              have HO375 := n5_
              have HO379 := n6_
              have HO386 := n7_
              have HO389 := n8_
              have HO393 := n9_
              have HO400 := n10_
              have HO403 := n11_
              have HO409 := n12_
              have HO412 := n13_
              have BK341 := n14_
              have BK342 := n15_
              have BK359 := n16_
              have BK368 := n17_
              have BK381 := n18_
              have BK382 := n19_
              have BK395 := n20_
              have BK396 := n21_
              have BK405 := n22_
              have BK414 := n23_
              have HB := n24_
              clear n0_ n1_ n2_ n3_ n4_ n5_ n6_ n7_ n8_ n9_ n10_ n11_ n12_ n13_ n14_ n15_ n16_ n17_ n18_ n19_ n20_ n21_ n22_ n23_ n24_
              have n0_ := Aside0.mk (Kd.V_drew HO354.out)
              have n1_ := Aside0.mk (Kd.V_drew HO357.out)
              have n2_ := Aside0.mk (Kd.V_drew HO363.out)
              have n3_ := Aside0.mk (Kd.V_drew HO366.out)
              have n4_ := Aside0.mk (Kd.V_drew HO372.out)
              have n5_ := Aside0.mk (Kd.V_drew HO375.out)
              have n6_ := Aside0.mk (Kd.V_drew HO379.out)
              have n7_ := Aside0.mk (Kd.V_drew HO386.out)
              have n8_ := Aside0.mk (Kd.V_drew HO389.out)
              have n9_ := Aside0.mk (Kd.V_drew HO393.out)
              have n10_ := Aside0.mk (Kd.V_drew HO400.out)
              have n11_ := Aside0.mk (Kd.V_drew HO403.out)
              have n12_ := Aside0.mk (Kd.V_drew HO409.out)
              have n13_ := Aside0.mk (Kd.V_drew HO412.out)
              have n14_ := Aside0.mk (blk_drew BK341.out)
              have n15_ := Aside0.mk (blk_drew BK342.out)
              have n16_ := Aside0.mk (blk_drew BK359.out)
              have n17_ := Aside0.mk (blk_drew BK368.out)
              have n18_ := Aside0.mk (blk_drew BK381.out)
              have n19_ := Aside0.mk (blk_drew BK382.out)
              have n20_ := Aside0.mk (blk_drew BK395.out)
              have n21_ := Aside0.mk (blk_drew BK396.out)
              have n22_ := Aside0.mk (blk_drew BK405.out)
              have n23_ := Aside0.mk (blk_drew BK414.out)
              have n24_ := Aside0.mk (below_drew1 HB.out)
              clear HO354 HO357 HO363 HO366 HO372 HO375 HO379 HO386 HO389 HO393 HO400 HO403 HO409 HO412 BK341 BK342 BK359 BK368 BK381 BK382 BK395 BK396 BK405 BK414 HB
              have HO354 := n0_
              have HO357 := n1_
              have HO363 := n2_
              have HO366 := n3_
              have HO372 := n4_
              have HO375 := n5_
              have HO379 := n6_
              have HO386 := n7_
              have HO389 := n8_
              have HO393 := n9_
              have HO400 := n10_
              have HO403 := n11_
              have HO409 := n12_
              have HO412 := n13_
              have BK341 := n14_
              have BK342 := n15_
              have BK359 := n16_
              have BK368 := n17_
              have BK381 := n18_
              have BK382 := n19_
              have BK395 := n20_
              have BK396 := n21_
              have BK405 := n22_
              have BK414 := n23_
              have HB := n24_
              clear n0_ n1_ n2_ n3_ n4_ n5_ n6_ n7_ n8_ n9_ n10_ n11_ n12_ n13_ n14_ n15_ n16_ n17_ n18_ n19_ n20_ n21_ n22_ n23_ n24_
              refine start_ (n := 45) (S := fun w' => w'.cell? ⟨gb359, 0, none⟩ = some (.int .i64 t351) ∧ w'.cell? ⟨gb359, 1, none⟩ = some (.slice Ao68 t352.length co68) ∧ w'.cell? ⟨gb359, 2, none⟩ = some (.slice Ao69 t355.length co69) ∧ w'.cell? ⟨gb368, 0, none⟩ = some (.int .i64 t360) ∧ w'.cell? ⟨gb368, 1, none⟩ = some (.slice Ao79 t361.length co79) ∧ w'.cell? ⟨gb368, 2, none⟩ = some (.slice Ao80 t364.length co80) ∧ w'.cell? ⟨gb381, 0, none⟩ = some (.int .i64 t369) ∧ w'.cell? ⟨gb381, 1, none⟩ = some (.slice Ao92 t370.length co92) ∧ w'.cell? ⟨gb381, 2, none⟩ = some (.slice Ao93 t373.length co93) ∧ w'.cell? ⟨gb395, 0, none⟩ = some (.int .i64 t383) ∧ w'.cell? ⟨gb395, 1, none⟩ = some (.slice Ao114 t384.length co114) ∧ w'.cell? ⟨gb395, 2, none⟩ = some (.slice Ao115 t387.length co115) ∧ w'.cell? ⟨gb382, 0, none⟩ = some (.int .u32 t376) ∧ w'.cell? ⟨gb382, 1, none⟩ = some (.slice Ao100 t377.length co100) ∧ w'.cell? ⟨gb396, 0, none⟩ = some (.int .u32 t390) ∧ w'.cell? ⟨gb396, 1, none⟩ = some (.slice Ao124 t391.length co124) ∧ w'.cell? ⟨gb405, 0, none⟩ = some (.int .i64 t397) ∧ w'.cell? ⟨gb405, 1, none⟩ = some (.slice Ao138 t398.length co138) ∧ w'.cell? ⟨gb405, 2, none⟩ = some (.slice Ao139 t401.length co139) ∧ w'.cell? ⟨gb414, 0, none⟩ = some (.int .i64 t406) ∧ w'.cell? ⟨gb414, 1, none⟩ = some (.slice Ao154 t407.length co154) ∧ w'.cell? ⟨gb414, 2, none⟩ = some (.slice Ao155 t410.length co155) ∧ w'.cell? ⟨gb341, 0, none⟩ = some (.int .i64 a0_0) ∧ w'.cell? ⟨gb341, 1, none⟩ = some (.slice A0_1 l0_1.length c0_1) ∧ w'.cell? ⟨gb341, 2, none⟩ = some (.slice A0_2 l0_2.length c0_2)) (ds := []) #[Z,Z,Z,Z,Z,Z,Z,Z,Z,Z,Z,Z,Z,Z,Z,Z,Z,Z,Z,Z,Z,Z,Z,Z,Z,Z,Z,Z,Z,Z,Z,Z,Z,Z,Z,Z,Z,Z,Z,Z,Z,Z,Z,Z,Z] (by kernel_rfl) rfl rfl ⟨(blk_cell BK359.out 0).trans rfl, (blk_cell BK359.out 1).trans rfl, (blk_cell BK359.out 2).trans rfl, (blk_cell BK368.out 0).trans rfl, (blk_cell BK368.out 1).trans rfl, (blk_cell BK368.out 2).trans rfl, (blk_cell BK381.out 0).trans rfl, (blk_cell BK381.out 1).trans rfl, (blk_cell BK381.out 2).trans rfl, (blk_cell BK395.out 0).trans rfl, (blk_cell BK395.out 1).trans rfl, (blk_cell BK395.out 2).trans rfl, (blk_cell BK382.out 0).trans rfl, (blk_cell BK382.out 1).trans rfl, (blk_cell BK396.out 0).trans rfl, (blk_cell BK396.out 1).trans rfl, (blk_cell BK405.out 0).trans rfl, (blk_cell BK405.out 1).trans rfl, (blk_cell BK405.out 2).trans rfl, (blk_cell BK414.out 0).trans rfl, (blk_cell BK414.out 1).trans rfl, (blk_cell BK414.out 2).trans rfl, (blk_cell BK341.out 0).trans rfl, (blk_cell BK341.out 1).trans rfl, (blk_cell BK341.out 2).trans rfl⟩ (fun hHeld => ?_); refine with_tabW chamberlainlaw06_NetDoes.tab11 chamberlainlaw06_NetDoes.bits11 (fun HT_ HW_ => ?_)
              generalize w156.drew = w157 at HO354 HO357 HO363 HO366 HO372 HO375 HO379 HO386 HO389 HO393 HO400 HO403 HO409 HO412 BK341 BK342 BK359 BK368 BK381 BK382 BK395 BK396 BK405 BK414 HB hHeld ⊢
              refine take_ (i := 0) (N := some 88) (v := ?_) (a' := ?_) #[Y,Z,Z,Z,Z,Z,Z,Z,Z,Z,Z,Z,Z,Z,Z,Z,Z,Z,Z,Z,Z,Z,Z,Z,Z,Z,Z,Z,Z,Z,Z,Z,Z,Z,Z,Z,Z,Z,Z,Z,Z,Z,Z,Z,Z] rfl rfl (take_ofW HT_.out HW_.out (by kernel_rfl)) (fun _ _ _ h => h) (Or.inl ⟨by rfl, ?_⟩) hHeld ?_ ?_
              rotate_left
              ·
               rintro w' ⟨s0, s1, s2, s3, s4, s5, s6, s7, s8, s9, s10, s11, s12, s13, s14, s15, s16, s17, s18, s19, s20, s21, s22, s23, s24⟩
               go_simp
               with_reducible rfl
              rotate_left
              ·
               simp only [Act.put, List.setIfInBounds_toArray, List.set_cons_zero, List.set_cons_succ, i64_w, i32_w]
               rfl
              refine take_ (i := 1) (N := some 89) (v := ?_) (a' := ?_) #[Y,Y,Z,Z,Z,Z,Z,Z,Z,Z,Z,Z,Z,Z,Z,Z,Z,Z,Z,Z,Z,Z,Z,Z,Z,Z,Z,Z,Z,Z,Z,Z,Z,Z,Z,Z,Z,Z,Z,Z,Z,Z,Z,Z,Z] rfl rfl (take_ofW HT_.out HW_.out (by kernel_rfl)) (fun _ _ _ h => h) (Or.inl ⟨by rfl, ?_⟩) hHeld ?_ ?_
              rotate_left
              ·
               rintro w' ⟨s0, s1, s2, s3, s4, s5, s6, s7, s8, s9, s10, s11, s12, s13, s14, s15, s16, s17, s18, s19, s20, s21, s22, s23, s24⟩
               go_simp
               with_reducible rfl
              rotate_left
              ·
               simp only [Act.put, List.setIfInBounds_toArray, List.set_cons_zero, List.set_cons_succ, i64_w, i32_w]
               rfl
              refine one_ (i := 2) (N := some 90) #[Y,Y,Y,Z,Z,Z,Z,Z,Z,Z,Z,Z,Z,Z,Z,Z,Z,Z,Z,Z,Z,Z,Z,Z,Z,Z,Z,Z,Z,Z,Z,Z,Z,Z,Z,Z,Z,Z,Z,Z,Z,Z,Z,Z,Z] rfl rfl (one_of HT_.out (by kernel_rfl)) (by decide) (fun K hK => ?_)
              refine goes_ Try.func18 (by kernel_rfl) rfl #[.agg #[.int .i64 t351, .slice Ao68 t352.length co68, .slice Ao69 t355.length co69], .agg #[.int .i64 t360, .slice Ao79 t361.length co79, .slice Ao80 t364.length co80]] (by rfl) rfl rfl (by (try simp only [List.map_toArray, List.map_cons, List.map_nil]); first | done | rfl | (simp only [List.length_drop, List.length_take]; rfl)) ?_
              with_reducible refine (chamberlainref06_Same.calls kj23 t351 _ _ t352 _ _ t355 t360 _ _ t361 _ _ t364 true _ ?side1 ?side2 ?side3 ?side4 ?side5 ?side6 ?side7 ?side8 A48.out).mono ?_
              (case side1 => repeat (first | exact (Kd.V_reads' HO354.out).2.2 | (with_reducible refine Kd.C_alloc ?_ _) | (with_reducible refine Kd.C_drewN ?_ _) | (with_reducible refine Kd.C_drew ?_)))
              (case side2 => exact (Kd.V_reads' HO354.out).2.1)
              (case side3 => repeat (first | exact (Kd.V_reads' HO357.out).2.2 | (with_reducible refine Kd.C_alloc ?_ _) | (with_reducible refine Kd.C_drewN ?_ _) | (with_reducible refine Kd.C_drew ?_)))
              (case side4 => exact (Kd.V_reads' HO357.out).2.1)
              (case side5 => repeat (first | exact (Kd.V_reads' HO363.out).2.2 | (with_reducible refine Kd.C_alloc ?_ _) | (with_reducible refine Kd.C_drewN ?_ _) | (with_reducible refine Kd.C_drew ?_)))
              (case side6 => exact (Kd.V_reads' HO363.out).2.1)
              (case side7 => repeat (first | exact (Kd.V_reads' HO366.out).2.2 | (with_reducible refine Kd.C_alloc ?_ _) | (with_reducible refine Kd.C_drewN ?_ _) | (with_reducible refine Kd.C_drew ?_)))
              (case side8 => exact (Kd.V_reads' HO366.out).2.1)
              rintro e w158 ⟨rfl, hb⟩
              refine ⟨_, rfl, ?_⟩
              have n4_ := Aside0.mk (vb_ HO372.out hb)
              have n5_ := Aside0.mk (vb_ HO375.out hb)
              have n6_ := Aside0.mk (vb_ HO379.out hb)
              have n7_ := Aside0.mk (vb_ HO386.out hb)
              have n8_ := Aside0.mk (vb_ HO389.out hb)
              have n9_ := Aside0.mk (vb_ HO393.out hb)
              have n10_ := Aside0.mk (vb_ HO400.out hb)
              have n11_ := Aside0.mk (vb_ HO403.out hb)
              have n12_ := Aside0.mk (vb_ HO409.out hb)
              have n13_ := Aside0.mk (vb_ HO412.out hb)
              have n14_ := Aside0.mk (bb_ BK341.out hb)
              have n16_ := Aside0.mk (bb_ BK359.out hb)
              have n17_ := Aside0.mk (bb_ BK368.out hb)
              have n18_ := Aside0.mk (bb_ BK381.out hb)
              have n19_ := Aside0.mk (bb_ BK382.out hb)
              have n20_ := Aside0.mk (bb_ BK395.out hb)
              have n21_ := Aside0.mk (bb_ BK396.out hb)
              have n22_ := Aside0.mk (bb_ BK405.out hb)
              have n23_ := Aside0.mk (bb_ BK414.out hb)
              have n24_ := Aside0.mk (bs_ hb)
              clear HO354 HO357 HO363 HO366 HO372 HO375 HO379 HO386 HO389 HO393 HO400 HO403 HO409 HO412 BK341 BK342 BK359 BK368 BK381 BK382 BK395 BK396 BK405 BK414 HB
              have HO372 := n4_
              have HO375 := n5_
              have HO379 := n6_
              have HO386 := n7_
              have HO389 := n8_
              have HO393 := n9_
              have HO400 := n10_
              have HO403 := n11_
              have HO409 := n12_
              have HO412 := n13_
              have BK341 := n14_
              have BK359 := n16_
              have BK368 := n17_
              have BK381 := n18_
              have BK382 := n19_
              have BK395 := n20_
              have BK396 := n21_
              have BK405 := n22_
              have BK414 := n23_
              have HB := n24_
              clear n4_ n5_ n6_ n7_ n8_ n9_ n10_ n11_ n12_ n13_ n14_ n16_ n17_ n18_ n19_ n20_ n21_ n22_ n23_ n24_
              (try clear hb)
              (try clear hb2)
              (try clear hk)
              (try clear hi)
              refine hK.out _ _ ⟨(blk_cell BK359.out 0).trans rfl, (blk_cell BK359.out 1).trans rfl, (blk_cell BK359.out 2).trans rfl, (blk_cell BK368.out 0).trans rfl, (blk_cell BK368.out 1).trans rfl, (blk_cell BK368.out 2).trans rfl, (blk_cell BK381.out 0).trans rfl, (blk_cell BK381.out 1).trans rfl, (blk_cell BK381.out 2).trans rfl, (blk_cell BK395.out 0).trans rfl, (blk_cell BK395.out 1).trans rfl, (blk_cell BK395.out 2).trans rfl, (blk_cell BK382.out 0).trans rfl, (blk_cell BK382.out 1).trans rfl, (blk_cell BK396.out 0).trans rfl, (blk_cell BK396.out 1).trans rfl, (blk_cell BK405.out 0).trans rfl, (blk_cell BK405.out 1).trans rfl, (blk_cell BK405.out 2).trans rfl, (blk_cell BK414.out 0).trans rfl, (blk_cell BK414.out 1).trans rfl, (blk_cell BK414.out 2).trans rfl, (blk_cell BK341.out 0).trans rfl, (blk_cell BK341.out 1).trans rfl, (blk_cell BK341.out 2).trans rfl⟩ (fun hHeld => ?_)
              clear hK K
              refine norm_ (a' := ?_) ?_ ?_
              rotate_left
              ·
               show Act.put _ (some 90) _ = _
               simp only [Act.put, List.setIfInBounds_toArray, List.set_cons_zero, List.set_cons_succ, i64_w, i32_w]
               rfl
              refine pure_ (i := 3) (N := some 91) (v := ?_) (a' := ?_) #[Y,Y,Y,Y,Z,Z,Z,Z,Z,Z,Z,Z,Z,Z,Z,Z,Z,Z,Z,Z,Z,Z,Z,Z,Z,Z,Z,Z,Z,Z,Z,Z,Z,Z,Z,Z,Z,Z,Z,Z,Z,Z,Z,Z,Z] rfl rfl (any_of HT_.out (by kernel_rfl)) (fun _ _ _ h => h) (Or.inl ⟨by rfl, ?_⟩) ?_ ?_
              rotate_left
              ·
               intro w'
               go_simp
               with_reducible rfl
              rotate_left
              ·
               simp only [Act.put, List.setIfInBounds_toArray, List.set_cons_zero, List.set_cons_succ, i64_w, i32_w]
               rfl
              refine pure_ (i := 4) (N := some 92) (v := ?_) (a' := ?_) #[Y,Y,Y,Y,Y,Z,Z,Z,Z,Z,Z,Z,Z,Z,Z,Z,Z,Z,Z,Z,Z,Z,Z,Z,Z,Z,Z,Z,Z,Z,Z,Z,Z,Z,Z,Z,Z,Z,Z,Z,Z,Z,Z,Z,Z] rfl rfl (any_of HT_.out (by kernel_rfl)) (fun _ _ _ h => h) (Or.inl ⟨by rfl, ?_⟩) ?_ ?_
              rotate_left
              ·
               intro w'
               go_simp
               with_reducible rfl
              rotate_left
              ·
               simp only [Act.put, List.setIfInBounds_toArray, List.set_cons_zero, List.set_cons_succ, i64_w, i32_w]
               rfl
              refine pure_ (i := 5) (N := some 93) (v := ?_) (a' := ?_) #[Y,Y,Y,Y,Y,Y,Z,Z,Z,Z,Z,Z,Z,Z,Z,Z,Z,Z,Z,Z,Z,Z,Z,Z,Z,Z,Z,Z,Z,Z,Z,Z,Z,Z,Z,Z,Z,Z,Z,Z,Z,Z,Z,Z,Z] rfl rfl (any_of HT_.out (by kernel_rfl)) (fun _ _ _ h => h) (Or.inl ⟨by rfl, ?_⟩) ?_ ?_
              rotate_left
              ·
               intro w'
               go_simp
               with_reducible rfl
              rotate_left
              ·
               simp only [Act.put, List.setIfInBounds_toArray, List.set_cons_zero, List.set_cons_succ, i64_w, i32_w]
               rfl
              refine pure_ (i := 6) (N := some 94) (v := ?_) (a' := ?_) #[Y,Y,Y,Y,Y,Y,Y,Z,Z,Z,Z,Z,Z,Z,Z,Z,Z,Z,Z,Z,Z,Z,Z,Z,Z,Z,Z,Z,Z,Z,Z,Z,Z,Z,Z,Z,Z,Z,Z,Z,Z,Z,Z,Z,Z] rfl rfl (any_of HT_.out (by kernel_rfl)) (fun _ _ _ h => h) (Or.inl ⟨by rfl, ?_⟩) ?_ ?_
              rotate_left
              ·
               intro w'
               go_simp
               with_reducible rfl
              rotate_left
              ·
               simp only [Act.put, List.setIfInBounds_toArray, List.set_cons_zero, List.set_cons_succ, i64_w, i32_w]
               rfl
              refine pure_ (i := 7) (N := some 95) (v := ?_) (a' := ?_) #[Y,Y,Y,Y,Y,Y,Y,Y,Z,Z,Z,Z,Z,Z,Z,Z,Z,Z,Z,Z,Z,Z,Z,Z,Z,Z,Z,Z,Z,Z,Z,Z,Z,Z,Z,Z,Z,Z,Z,Z,Z,Z,Z,Z,Z] rfl rfl (any_of HT_.out (by kernel_rfl)) (fun _ _ _ h => h) (Or.inl ⟨by rfl, ?_⟩) ?_ ?_
              rotate_left
              ·
               intro w'
               go_simp
               with_reducible rfl
              rotate_left
              ·
               simp only [Act.put, List.setIfInBounds_toArray, List.set_cons_zero, List.set_cons_succ, i64_w, i32_w]
               rfl
              refine pure_ (i := 8) (N := some 96) (v := ?_) (a' := ?_) #[Y,Y,Y,Y,Y,Y,Y,Y,Y,Z,Z,Z,Z,Z,Z,Z,Z,Z,Z,Z,Z,Z,Z,Z,Z,Z,Z,Z,Z,Z,Z,Z,Z,Z,Z,Z,Z,Z,Z,Z,Z,Z,Z,Z,Z] rfl rfl (any_of HT_.out (by kernel_rfl)) (fun _ _ _ h => h) (Or.inl ⟨by rfl, ?_⟩) ?_ ?_
              rotate_left
              ·
               intro w'
               go_simp
               with_reducible rfl
              rotate_left
              ·
               simp only [Act.put, List.setIfInBounds_toArray, List.set_cons_zero, List.set_cons_succ, i64_w, i32_w]
               rfl
              refine take_ (i := 9) (N := some 97) (v := ?_) (a' := ?_) #[Y,Y,Y,Y,Y,Y,Y,Y,Y,Y,Z,Z,Z,Z,Z,Z,Z,Z,Z,Z,Z,Z,Z,Z,Z,Z,Z,Z,Z,Z,Z,Z,Z,Z,Z,Z,Z,Z,Z,Z,Z,Z,Z,Z,Z] rfl rfl (take_ofW HT_.out HW_.out (by kernel_rfl)) (fun _ _ _ h => h) (Or.inl ⟨by rfl, ?_⟩) hHeld ?_ ?_
              rotate_left
              ·
               rintro w' ⟨s0, s1, s2, s3, s4, s5, s6, s7, s8, s9, s10, s11, s12, s13, s14, s15, s16, s17, s18, s19, s20, s21, s22, s23, s24⟩
               go_simp
               with_reducible rfl
              rotate_left
              ·
               simp only [Act.put, List.setIfInBounds_toArray, List.set_cons_zero, List.set_cons_succ, i64_w, i32_w]
               rfl
              refine take_ (i := 10) (N := some 98) (v := ?_) (a' := ?_) #[Y,Y,Y,Y,Y,Y,Y,Y,Y,Y,Y,Z,Z,Z,Z,Z,Z,Z,Z,Z,Z,Z,Z,Z,Z,Z,Z,Z,Z,Z,Z,Z,Z,Z,Z,Z,Z,Z,Z,Z,Z,Z,Z,Z,Z] rfl rfl (take_ofW HT_.out HW_.out (by kernel_rfl)) (fun _ _ _ h => h) (Or.inl ⟨by rfl, ?_⟩) hHeld ?_ ?_
              rotate_left
              ·
               rintro w' ⟨s0, s1, s2, s3, s4, s5, s6, s7, s8, s9, s10, s11, s12, s13, s14, s15, s16, s17, s18, s19, s20, s21, s22, s23, s24⟩
               go_simp
               with_reducible rfl
              rotate_left
              ·
               simp only [Act.put, List.setIfInBounds_toArray, List.set_cons_zero, List.set_cons_succ, i64_w, i32_w]
               rfl
              refine one_ (i := 11) (N := some 99) #[Y,Y,Y,Y,Y,Y,Y,Y,Y,Y,Y,Y,Z,Z,Z,Z,Z,Z,Z,Z,Z,Z,Z,Z,Z,Z,Z,Z,Z,Z,Z,Z,Z,Z,Z,Z,Z,Z,Z,Z,Z,Z,Z,Z,Z] rfl rfl (one_of HT_.out (by kernel_rfl)) (by decide) (fun K hK => ?_)
              refine goes_ Try.func18 (by kernel_rfl) rfl #[.agg #[.int .i64 t369, .slice Ao92 t370.length co92, .slice Ao93 t373.length co93], .agg #[.int .i64 t383, .slice Ao114 t384.length co114, .slice Ao115 t387.length co115]] (by rfl) rfl rfl (by (try simp only [List.map_toArray, List.map_cons, List.map_nil]); first | done | rfl | (simp only [List.length_drop, List.length_take]; rfl)) ?_
              with_reducible refine (chamberlainref06_Same.calls kj23 t369 _ _ t370 _ _ t373 t383 _ _ t384 _ _ t387 true _ ?side1 ?side2 ?side3 ?side4 ?side5 ?side6 ?side7 ?side8 A51.out).mono ?_
              (case side1 => repeat (first | exact (Kd.V_reads' HO372.out).2.2 | (with_reducible refine Kd.C_alloc ?_ _) | (with_reducible refine Kd.C_drewN ?_ _) | (with_reducible refine Kd.C_drew ?_)))
              (case side2 => exact (Kd.V_reads' HO372.out).2.1)
              (case side3 => repeat (first | exact (Kd.V_reads' HO375.out).2.2 | (with_reducible refine Kd.C_alloc ?_ _) | (with_reducible refine Kd.C_drewN ?_ _) | (with_reducible refine Kd.C_drew ?_)))
              (case side4 => exact (Kd.V_reads' HO375.out).2.1)
              (case side5 => repeat (first | exact (Kd.V_reads' HO386.out).2.2 | (with_reducible refine Kd.C_alloc ?_ _) | (with_reducible refine Kd.C_drewN ?_ _) | (with_reducible refine Kd.C_drew ?_)))
              (case side6 => exact (Kd.V_reads' HO386.out).2.1)
              (case side7 => repeat (first | exact (Kd.V_reads' HO389.out).2.2 | (with_reducible refine Kd.C_alloc ?_ _) | (with_reducible refine Kd.C_drewN ?_ _) | (with_reducible refine Kd.C_drew ?_)))
              (case side8 => exact (Kd.V_reads' HO389.out).2.1)
              rintro e w159 ⟨rfl, hb⟩
              refine ⟨_, rfl, ?_⟩
              have n6_ := Aside0.mk (vb_ HO379.out hb)
              have n9_ := Aside0.mk (vb_ HO393.out hb)
              have n10_ := Aside0.mk (vb_ HO400.out hb)
              have n11_ := Aside0.mk (vb_ HO403.out hb)
              have n12_ := Aside0.mk (vb_ HO409.out hb)
              have n13_ := Aside0.mk (vb_ HO412.out hb)
              have n14_ := Aside0.mk (bb_ BK341.out hb)
              have n16_ := Aside0.mk (bb_ BK359.out hb)
              have n17_ := Aside0.mk (bb_ BK368.out hb)
              have n18_ := Aside0.mk (bb_ BK381.out hb)
              have n19_ := Aside0.mk (bb_ BK382.out hb)
              have n20_ := Aside0.mk (bb_ BK395.out hb)
              have n21_ := Aside0.mk (bb_ BK396.out hb)
              have n22_ := Aside0.mk (bb_ BK405.out hb)
              have n23_ := Aside0.mk (bb_ BK414.out hb)
              have n24_ := Aside0.mk (bs_ hb)
              clear HO372 HO375 HO379 HO386 HO389 HO393 HO400 HO403 HO409 HO412 BK341 BK359 BK368 BK381 BK382 BK395 BK396 BK405 BK414 HB
              have HO379 := n6_
              have HO393 := n9_
              have HO400 := n10_
              have HO403 := n11_
              have HO409 := n12_
              have HO412 := n13_
              have BK341 := n14_
              have BK359 := n16_
              have BK368 := n17_
              have BK381 := n18_
              have BK382 := n19_
              have BK395 := n20_
              have BK396 := n21_
              have BK405 := n22_
              have BK414 := n23_
              have HB := n24_
              clear n6_ n9_ n10_ n11_ n12_ n13_ n14_ n16_ n17_ n18_ n19_ n20_ n21_ n22_ n23_ n24_
              (try clear hb)
              (try clear hb2)
              (try clear hk)
              (try clear hi)
              refine hK.out _ _ ⟨(blk_cell BK359.out 0).trans rfl, (blk_cell BK359.out 1).trans rfl, (blk_cell BK359.out 2).trans rfl, (blk_cell BK368.out 0).trans rfl, (blk_cell BK368.out 1).trans rfl, (blk_cell BK368.out 2).trans rfl, (blk_cell BK381.out 0).trans rfl, (blk_cell BK381.out 1).trans rfl, (blk_cell BK381.out 2).trans rfl, (blk_cell BK395.out 0).trans rfl, (blk_cell BK395.out 1).trans rfl, (blk_cell BK395.out 2).trans rfl, (blk_cell BK382.out 0).trans rfl, (blk_cell BK382.out 1).trans rfl, (blk_cell BK396.out 0).trans rfl, (blk_cell BK396.out 1).trans rfl, (blk_cell BK405.out 0).trans rfl, (blk_cell BK405.out 1).trans rfl, (blk_cell BK405.out 2).trans rfl, (blk_cell BK414.out 0).trans rfl, (blk_cell BK414.out 1).trans rfl, (blk_cell BK414.out 2).trans rfl, (blk_cell BK341.out 0).trans rfl, (blk_cell BK341.out 1).trans rfl, (blk_cell BK341.out 2).trans rfl⟩ (fun hHeld => ?_)
              clear hK K
              refine norm_ (a' := ?_) ?_ ?_
              rotate_left
              ·
               show Act.put _ (some 99) _ = _
               simp only [Act.put, List.setIfInBounds_toArray, List.set_cons_zero, List.set_cons_succ, i64_w, i32_w]
               rfl
              refine pure_ (i := 12) (N := some 100) (v := ?_) (a' := ?_) #[Y,Y,Y,Y,Y,Y,Y,Y,Y,Y,Y,Y,Y,Z,Z,Z,Z,Z,Z,Z,Z,Z,Z,Z,Z,Z,Z,Z,Z,Z,Z,Z,Z,Z,Z,Z,Z,Z,Z,Z,Z,Z,Z,Z,Z] rfl rfl (any_of HT_.out (by kernel_rfl)) (fun _ _ _ h => h) (Or.inl ⟨by rfl, ?_⟩) ?_ ?_
              rotate_left
              ·
               intro w'
               go_simp
               with_reducible rfl
              rotate_left
              ·
               simp only [Act.put, List.setIfInBounds_toArray, List.set_cons_zero, List.set_cons_succ, i64_w, i32_w]
               rfl
              refine pure_ (i := 13) (N := some 101) (v := ?_) (a' := ?_) #[Y,Y,Y,Y,Y,Y,Y,Y,Y,Y,Y,Y,Y,Y,Z,Z,Z,Z,Z,Z,Z,Z,Z,Z,Z,Z,Z,Z,Z,Z,Z,Z,Z,Z,Z,Z,Z,Z,Z,Z,Z,Z,Z,Z,Z] rfl rfl (any_of HT_.out (by kernel_rfl)) (fun _ _ _ h => h) (Or.inl ⟨by rfl, ?_⟩) ?_ ?_
              rotate_left
              ·
               intro w'
               go_simp
               with_reducible rfl
              rotate_left
              ·
               simp only [Act.put, List.setIfInBounds_toArray, List.set_cons_zero, List.set_cons_succ, i64_w, i32_w]
               rfl
              refine take_ (i := 14) (N := some 102) (v := ?_) (a' := ?_) #[Y,Y,Y,Y,Y,Y,Y,Y,Y,Y,Y,Y,Y,Y,Y,Z,Z,Z,Z,Z,Z,Z,Z,Z,Z,Z,Z,Z,Z,Z,Z,Z,Z,Z,Z,Z,Z,Z,Z,Z,Z,Z,Z,Z,Z] rfl rfl (take_ofW HT_.out HW_.out (by kernel_rfl)) (fun _ _ _ h => h) (Or.inl ⟨by rfl, ?_⟩) hHeld ?_ ?_
              rotate_left
              ·
               rintro w' ⟨s0, s1, s2, s3, s4, s5, s6, s7, s8, s9, s10, s11, s12, s13, s14, s15, s16, s17, s18, s19, s20, s21, s22, s23, s24⟩
               go_simp
               with_reducible rfl
              rotate_left
              ·
               simp only [Act.put, List.setIfInBounds_toArray, List.set_cons_zero, List.set_cons_succ, i64_w, i32_w]
               rfl
              refine take_ (i := 15) (N := some 103) (v := ?_) (a' := ?_) #[Y,Y,Y,Y,Y,Y,Y,Y,Y,Y,Y,Y,Y,Y,Y,Y,Z,Z,Z,Z,Z,Z,Z,Z,Z,Z,Z,Z,Z,Z,Z,Z,Z,Z,Z,Z,Z,Z,Z,Z,Z,Z,Z,Z,Z] rfl rfl (take_ofW HT_.out HW_.out (by kernel_rfl)) (fun _ _ _ h => h) (Or.inl ⟨by rfl, ?_⟩) hHeld ?_ ?_
              rotate_left
              ·
               rintro w' ⟨s0, s1, s2, s3, s4, s5, s6, s7, s8, s9, s10, s11, s12, s13, s14, s15, s16, s17, s18, s19, s20, s21, s22, s23, s24⟩
               go_simp
               with_reducible rfl
              rotate_left
              ·
               simp only [Act.put, List.setIfInBounds_toArray, List.set_cons_zero, List.set_cons_succ, i64_w, i32_w]
               rfl
              refine one_ (i := 16) (N := some 104) #[Y,Y,Y,Y,Y,Y,Y,Y,Y,Y,Y,Y,Y,Y,Y,Y,Y,Z,Z,Z,Z,Z,Z,Z,Z,Z,Z,Z,Z,Z,Z,Z,Z,Z,Z,Z,Z,Z,Z,Z,Z,Z,Z,Z,Z] rfl rfl (one_of HT_.out (by kernel_rfl)) (by decide) (fun K hK => ?_)
              refine goes_ Try.func19 (by kernel_rfl) rfl #[.agg #[.int .u32 t376, .slice Ao100 t377.length co100], .agg #[.int .u32 t390, .slice Ao124 t391.length co124]] (by rfl) rfl rfl (by (try simp only [List.map_toArray, List.map_cons, List.map_nil]); first | done | rfl | (simp only [List.length_drop, List.length_take]; rfl)) ?_
              with_reducible refine (chamberlainref06_One.calls kj23 t376 _ _ t377 t390 _ _ t391 true _ ?side1 ?side2 ?side3 ?side4 A53.out).mono ?_
              (case side1 => repeat (first | exact (Kd.V_reads' HO379.out).2.2 | (with_reducible refine Kd.C_alloc ?_ _) | (with_reducible refine Kd.C_drewN ?_ _) | (with_reducible refine Kd.C_drew ?_)))
              (case side2 => exact (Kd.V_reads' HO379.out).2.1)
              (case side3 => repeat (first | exact (Kd.V_reads' HO393.out).2.2 | (with_reducible refine Kd.C_alloc ?_ _) | (with_reducible refine Kd.C_drewN ?_ _) | (with_reducible refine Kd.C_drew ?_)))
              (case side4 => exact (Kd.V_reads' HO393.out).2.1)
              rintro e w160 ⟨rfl, hb⟩
              refine ⟨_, rfl, ?_⟩
              have n10_ := Aside0.mk (vb_ HO400.out hb)
              have n11_ := Aside0.mk (vb_ HO403.out hb)
              have n12_ := Aside0.mk (vb_ HO409.out hb)
              have n13_ := Aside0.mk (vb_ HO412.out hb)
              have n14_ := Aside0.mk (bb_ BK341.out hb)
              have n16_ := Aside0.mk (bb_ BK359.out hb)
              have n17_ := Aside0.mk (bb_ BK368.out hb)
              have n18_ := Aside0.mk (bb_ BK381.out hb)
              have n19_ := Aside0.mk (bb_ BK382.out hb)
              have n20_ := Aside0.mk (bb_ BK395.out hb)
              have n21_ := Aside0.mk (bb_ BK396.out hb)
              have n22_ := Aside0.mk (bb_ BK405.out hb)
              have n23_ := Aside0.mk (bb_ BK414.out hb)
              have n24_ := Aside0.mk (bs_ hb)
              clear HO379 HO393 HO400 HO403 HO409 HO412 BK341 BK359 BK368 BK381 BK382 BK395 BK396 BK405 BK414 HB
              have HO400 := n10_
              have HO403 := n11_
              have HO409 := n12_
              have HO412 := n13_
              have BK341 := n14_
              have BK359 := n16_
              have BK368 := n17_
              have BK381 := n18_
              have BK382 := n19_
              have BK395 := n20_
              have BK396 := n21_
              have BK405 := n22_
              have BK414 := n23_
              have HB := n24_
              clear n10_ n11_ n12_ n13_ n14_ n16_ n17_ n18_ n19_ n20_ n21_ n22_ n23_ n24_
              (try clear hb)
              (try clear hb2)
              (try clear hk)
              (try clear hi)
              refine hK.out _ _ ⟨(blk_cell BK359.out 0).trans rfl, (blk_cell BK359.out 1).trans rfl, (blk_cell BK359.out 2).trans rfl, (blk_cell BK368.out 0).trans rfl, (blk_cell BK368.out 1).trans rfl, (blk_cell BK368.out 2).trans rfl, (blk_cell BK381.out 0).trans rfl, (blk_cell BK381.out 1).trans rfl, (blk_cell BK381.out 2).trans rfl, (blk_cell BK395.out 0).trans rfl, (blk_cell BK395.out 1).trans rfl, (blk_cell BK395.out 2).trans rfl, (blk_cell BK382.out 0).trans rfl, (blk_cell BK382.out 1).trans rfl, (blk_cell BK396.out 0).trans rfl, (blk_cell BK396.out 1).trans rfl, (blk_cell BK405.out 0).trans rfl, (blk_cell BK405.out 1).trans rfl, (blk_cell BK405.out 2).trans rfl, (blk_cell BK414.out 0).trans rfl, (blk_cell BK414.out 1).trans rfl, (blk_cell BK414.out 2).trans rfl, (blk_cell BK341.out 0).trans rfl, (blk_cell BK341.out 1).trans rfl, (blk_cell BK341.out 2).trans rfl⟩ (fun hHeld => ?_)
              clear hK K
              refine norm_ (a' := ?_) ?_ ?_
              rotate_left
              ·
               show Act.put _ (some 104) _ = _
               simp only [Act.put, List.setIfInBounds_toArray, List.set_cons_zero, List.set_cons_succ, i64_w, i32_w]
               rfl
              refine pure_ (i := 17) (N := some 105) (v := ?_) (a' := ?_) #[Y,Y,Y,Y,Y,Y,Y,Y,Y,Y,Y,Y,Y,Y,Y,Y,Y,Y,Z,Z,Z,Z,Z,Z,Z,Z,Z,Z,Z,Z,Z,Z,Z,Z,Z,Z,Z,Z,Z,Z,Z,Z,Z,Z,Z] rfl rfl (any_of HT_.out (by kernel_rfl)) (fun _ _ _ h => h) (Or.inl ⟨by rfl, ?_⟩) ?_ ?_
              rotate_left
              ·
               intro w'
               go_simp
               with_reducible rfl
              rotate_left
              ·
               simp only [Act.put, List.setIfInBounds_toArray, List.set_cons_zero, List.set_cons_succ, i64_w, i32_w]
               rfl
              refine pure_ (i := 18) (N := some 106) (v := ?_) (a' := ?_) #[Y,Y,Y,Y,Y,Y,Y,Y,Y,Y,Y,Y,Y,Y,Y,Y,Y,Y,Y,Z,Z,Z,Z,Z,Z,Z,Z,Z,Z,Z,Z,Z,Z,Z,Z,Z,Z,Z,Z,Z,Z,Z,Z,Z,Z] rfl rfl (any_of HT_.out (by kernel_rfl)) (fun _ _ _ h => h) (Or.inl ⟨by rfl, ?_⟩) ?_ ?_
              rotate_left
              ·
               intro w'
               go_simp
               with_reducible rfl
              rotate_left
              ·
               simp only [Act.put, List.setIfInBounds_toArray, List.set_cons_zero, List.set_cons_succ, i64_w, i32_w]
               rfl
              refine pure_ (i := 19) (N := some 107) (v := ?_) (a' := ?_) #[Y,Y,Y,Y,Y,Y,Y,Y,Y,Y,Y,Y,Y,Y,Y,Y,Y,Y,Y,Y,Z,Z,Z,Z,Z,Z,Z,Z,Z,Z,Z,Z,Z,Z,Z,Z,Z,Z,Z,Z,Z,Z,Z,Z,Z] rfl rfl (any_of HT_.out (by kernel_rfl)) (fun _ _ _ h => h) (Or.inl ⟨by rfl, ?_⟩) ?_ ?_
              rotate_left
              ·
               intro w'
               go_simp
               with_reducible rfl
              rotate_left
              ·
               simp only [Act.put, List.setIfInBounds_toArray, List.set_cons_zero, List.set_cons_succ, i64_w, i32_w]
               rfl
              refine pure_ (i := 20) (N := some 108) (v := ?_) (a' := ?_) #[Y,Y,Y,Y,Y,Y,Y,Y,Y,Y,Y,Y,Y,Y,Y,Y,Y,Y,Y,Y,Y,Z,Z,Z,Z,Z,Z,Z,Z,Z,Z,Z,Z,Z,Z,Z,Z,Z,Z,Z,Z,Z,Z,Z,Z] rfl rfl (any_of HT_.out (by kernel_rfl)) (fun _ _ _ h => h) (Or.inl ⟨by rfl, ?_⟩) ?_ ?_
              rotate_left
              ·
               intro w'
               go_simp
               with_reducible rfl
              rotate_left
              ·
               simp only [Act.put, List.setIfInBounds_toArray, List.set_cons_zero, List.set_cons_succ, i64_w, i32_w]
               rfl
              refine pure_ (i := 21) (N := some 109) (v := ?_) (a' := ?_) #[Y,Y,Y,Y,Y,Y,Y,Y,Y,Y,Y,Y,Y,Y,Y,Y,Y,Y,Y,Y,Y,Y,Z,Z,Z,Z,Z,Z,Z,Z,Z,Z,Z,Z,Z,Z,Z,Z,Z,Z,Z,Z,Z,Z,Z] rfl rfl (any_of HT_.out (by kernel_rfl)) (fun _ _ _ h => h) (Or.inl ⟨by rfl, ?_⟩) ?_ ?_
              rotate_left
              ·
               intro w'
               go_simp
               with_reducible rfl
              rotate_left
              ·
               simp only [Act.put, List.setIfInBounds_toArray, List.set_cons_zero, List.set_cons_succ, i64_w, i32_w]
               rfl
              refine pure_ (i := 22) (N := some 110) (v := ?_) (a' := ?_) #[Y,Y,Y,Y,Y,Y,Y,Y,Y,Y,Y,Y,Y,Y,Y,Y,Y,Y,Y,Y,Y,Y,Y,Z,Z,Z,Z,Z,Z,Z,Z,Z,Z,Z,Z,Z,Z,Z,Z,Z,Z,Z,Z,Z,Z] rfl rfl (any_of HT_.out (by kernel_rfl)) (fun _ _ _ h => h) (Or.inl ⟨by rfl, ?_⟩) ?_ ?_
              rotate_left
              ·
               intro w'
               go_simp
               with_reducible rfl
              rotate_left
              ·
               simp only [Act.put, List.setIfInBounds_toArray, List.set_cons_zero, List.set_cons_succ, i64_w, i32_w]
               rfl
              refine pure_ (i := 23) (N := some 111) (v := ?_) (a' := ?_) #[Y,Y,Y,Y,Y,Y,Y,Y,Y,Y,Y,Y,Y,Y,Y,Y,Y,Y,Y,Y,Y,Y,Y,Y,Z,Z,Z,Z,Z,Z,Z,Z,Z,Z,Z,Z,Z,Z,Z,Z,Z,Z,Z,Z,Z] rfl rfl (any_of HT_.out (by kernel_rfl)) (fun _ _ _ h => h) (Or.inl ⟨by rfl, ?_⟩) ?_ ?_
              rotate_left
              ·
               intro w'
               go_simp
               with_reducible rfl
              rotate_left
              ·
               simp only [Act.put, List.setIfInBounds_toArray, List.set_cons_zero, List.set_cons_succ, i64_w, i32_w]
               rfl
              refine take_ (i := 24) (N := some 112) (v := ?_) (a' := ?_) #[Y,Y,Y,Y,Y,Y,Y,Y,Y,Y,Y,Y,Y,Y,Y,Y,Y,Y,Y,Y,Y,Y,Y,Y,Y,Z,Z,Z,Z,Z,Z,Z,Z,Z,Z,Z,Z,Z,Z,Z,Z,Z,Z,Z,Z] rfl rfl (take_ofW HT_.out HW_.out (by kernel_rfl)) (fun _ _ _ h => h) (Or.inl ⟨by rfl, ?_⟩) hHeld ?_ ?_
              rotate_left
              ·
               rintro w' ⟨s0, s1, s2, s3, s4, s5, s6, s7, s8, s9, s10, s11, s12, s13, s14, s15, s16, s17, s18, s19, s20, s21, s22, s23, s24⟩
               go_simp
               with_reducible rfl
              rotate_left
              ·
               simp only [Act.put, List.setIfInBounds_toArray, List.set_cons_zero, List.set_cons_succ, i64_w, i32_w]
               rfl
              refine take_ (i := 25) (N := some 113) (v := ?_) (a' := ?_) #[Y,Y,Y,Y,Y,Y,Y,Y,Y,Y,Y,Y,Y,Y,Y,Y,Y,Y,Y,Y,Y,Y,Y,Y,Y,Y,Z,Z,Z,Z,Z,Z,Z,Z,Z,Z,Z,Z,Z,Z,Z,Z,Z,Z,Z] rfl rfl (take_ofW HT_.out HW_.out (by kernel_rfl)) (fun _ _ _ h => h) (Or.inl ⟨by rfl, ?_⟩) hHeld ?_ ?_
              rotate_left
              ·
               rintro w' ⟨s0, s1, s2, s3, s4, s5, s6, s7, s8, s9, s10, s11, s12, s13, s14, s15, s16, s17, s18, s19, s20, s21, s22, s23, s24⟩
               go_simp
               with_reducible rfl
              rotate_left
              ·
               simp only [Act.put, List.setIfInBounds_toArray, List.set_cons_zero, List.set_cons_succ, i64_w, i32_w]
               rfl
              refine one_ (i := 26) (N := some 114) #[Y,Y,Y,Y,Y,Y,Y,Y,Y,Y,Y,Y,Y,Y,Y,Y,Y,Y,Y,Y,Y,Y,Y,Y,Y,Y,Y,Z,Z,Z,Z,Z,Z,Z,Z,Z,Z,Z,Z,Z,Z,Z,Z,Z,Z] rfl rfl (one_of HT_.out (by kernel_rfl)) (by decide) (fun K hK => ?_)
              refine goes_ Try.func18 (by kernel_rfl) rfl #[.agg #[.int .i64 t397, .slice Ao138 t398.length co138, .slice Ao139 t401.length co139], .agg #[.int .i64 t406, .slice Ao154 t407.length co154, .slice Ao155 t410.length co155]] (by rfl) rfl rfl (by (try simp only [List.map_toArray, List.map_cons, List.map_nil]); first | done | rfl | (simp only [List.length_drop, List.length_take]; rfl)) ?_
              with_reducible refine (chamberlainref06_Same.calls kj23 t397 _ _ t398 _ _ t401 t406 _ _ t407 _ _ t410 true _ ?side1 ?side2 ?side3 ?side4 ?side5 ?side6 ?side7 ?side8 A56.out).mono ?_
              (case side1 => repeat (first | exact (Kd.V_reads' HO400.out).2.2 | (with_reducible refine Kd.C_alloc ?_ _) | (with_reducible refine Kd.C_drewN ?_ _) | (with_reducible refine Kd.C_drew ?_)))
              (case side2 => exact (Kd.V_reads' HO400.out).2.1)
              (case side3 => repeat (first | exact (Kd.V_reads' HO403.out).2.2 | (with_reducible refine Kd.C_alloc ?_ _) | (with_reducible refine Kd.C_drewN ?_ _) | (with_reducible refine Kd.C_drew ?_)))
              (case side4 => exact (Kd.V_reads' HO403.out).2.1)
              (case side5 => repeat (first | exact (Kd.V_reads' HO409.out).2.2 | (with_reducible refine Kd.C_alloc ?_ _) | (with_reducible refine Kd.C_drewN ?_ _) | (with_reducible refine Kd.C_drew ?_)))
              (case side6 => exact (Kd.V_reads' HO409.out).2.1)
              (case side7 => repeat (first | exact (Kd.V_reads' HO412.out).2.2 | (with_reducible refine Kd.C_alloc ?_ _) | (with_reducible refine Kd.C_drewN ?_ _) | (with_reducible refine Kd.C_drew ?_)))
              (case side8 => exact (Kd.V_reads' HO412.out).2.1)
              rintro e w161 ⟨rfl, hb⟩
              refine ⟨_, rfl, ?_⟩
              have n14_ := Aside0.mk (bb_ BK341.out hb)
              have n16_ := Aside0.mk (bb_ BK359.out hb)
              have n17_ := Aside0.mk (bb_ BK368.out hb)
              have n18_ := Aside0.mk (bb_ BK381.out hb)
              have n19_ := Aside0.mk (bb_ BK382.out hb)
              have n20_ := Aside0.mk (bb_ BK395.out hb)
              have n21_ := Aside0.mk (bb_ BK396.out hb)
              have n22_ := Aside0.mk (bb_ BK405.out hb)
              have n23_ := Aside0.mk (bb_ BK414.out hb)
              have n24_ := Aside0.mk (bs_ hb)
              clear HO400 HO403 HO409 HO412 BK341 BK359 BK368 BK381 BK382 BK395 BK396 BK405 BK414 HB
              have BK341 := n14_
              have BK359 := n16_
              have BK368 := n17_
              have BK381 := n18_
              have BK382 := n19_
              have BK395 := n20_
              have BK396 := n21_
              have BK405 := n22_
              have BK414 := n23_
              have HB := n24_
              clear n14_ n16_ n17_ n18_ n19_ n20_ n21_ n22_ n23_ n24_
              (try clear hb)
              (try clear hb2)
              (try clear hk)
              (try clear hi)
              refine hK.out _ _ ⟨(blk_cell BK359.out 0).trans rfl, (blk_cell BK359.out 1).trans rfl, (blk_cell BK359.out 2).trans rfl, (blk_cell BK368.out 0).trans rfl, (blk_cell BK368.out 1).trans rfl, (blk_cell BK368.out 2).trans rfl, (blk_cell BK381.out 0).trans rfl, (blk_cell BK381.out 1).trans rfl, (blk_cell BK381.out 2).trans rfl, (blk_cell BK395.out 0).trans rfl, (blk_cell BK395.out 1).trans rfl, (blk_cell BK395.out 2).trans rfl, (blk_cell BK382.out 0).trans rfl, (blk_cell BK382.out 1).trans rfl, (blk_cell BK396.out 0).trans rfl, (blk_cell BK396.out 1).trans rfl, (blk_cell BK405.out 0).trans rfl, (blk_cell BK405.out 1).trans rfl, (blk_cell BK405.out 2).trans rfl, (blk_cell BK414.out 0).trans rfl, (blk_cell BK414.out 1).trans rfl, (blk_cell BK414.out 2).trans rfl, (blk_cell BK341.out 0).trans rfl, (blk_cell BK341.out 1).trans rfl, (blk_cell BK341.out 2).trans rfl⟩ (fun hHeld => ?_)
              clear hK K
              refine norm_ (a' := ?_) ?_ ?_
              rotate_left
              ·
               show Act.put _ (some 114) _ = _
               simp only [Act.put, List.setIfInBounds_toArray, List.set_cons_zero, List.set_cons_succ, i64_w, i32_w]
               rfl
              refine pure_ (i := 27) (N := some 115) (v := ?_) (a' := ?_) #[Y,Y,Y,Y,Y,Y,Y,Y,Y,Y,Y,Y,Y,Y,Y,Y,Y,Y,Y,Y,Y,Y,Y,Y,Y,Y,Y,Y,Z,Z,Z,Z,Z,Z,Z,Z,Z,Z,Z,Z,Z,Z,Z,Z,Z] rfl rfl (any_of HT_.out (by kernel_rfl)) (fun _ _ _ h => h) (Or.inl ⟨by rfl, ?_⟩) ?_ ?_
              rotate_left
              ·
               intro w'
               go_simp
               with_reducible rfl
              rotate_left
              ·
               simp only [Act.put, List.setIfInBounds_toArray, List.set_cons_zero, List.set_cons_succ, i64_w, i32_w]
               rfl
              refine pure_ (i := 28) (N := some 116) (v := ?_) (a' := ?_) #[Y,Y,Y,Y,Y,Y,Y,Y,Y,Y,Y,Y,Y,Y,Y,Y,Y,Y,Y,Y,Y,Y,Y,Y,Y,Y,Y,Y,Y,Z,Z,Z,Z,Z,Z,Z,Z,Z,Z,Z,Z,Z,Z,Z,Z] rfl rfl (any_of HT_.out (by kernel_rfl)) (fun _ _ _ h => h) (Or.inl ⟨by rfl, ?_⟩) ?_ ?_
              rotate_left
              ·
               intro w'
               go_simp
               with_reducible rfl
              rotate_left
              ·
               simp only [Act.put, List.setIfInBounds_toArray, List.set_cons_zero, List.set_cons_succ, i64_w, i32_w]
               rfl
              refine pure_ (i := 29) (N := some 117) (v := ?_) (a' := ?_) #[Y,Y,Y,Y,Y,Y,Y,Y,Y,Y,Y,Y,Y,Y,Y,Y,Y,Y,Y,Y,Y,Y,Y,Y,Y,Y,Y,Y,Y,Y,Z,Z,Z,Z,Z,Z,Z,Z,Z,Z,Z,Z,Z,Z,Z] rfl rfl (any_of HT_.out (by kernel_rfl)) (fun _ _ _ h => h) (Or.inl ⟨by rfl, ?_⟩) ?_ ?_
              rotate_left
              ·
               intro w'
               go_simp
               with_reducible rfl
              rotate_left
              ·
               simp only [Act.put, List.setIfInBounds_toArray, List.set_cons_zero, List.set_cons_succ, i64_w, i32_w]
               rfl
              refine pure_ (i := 30) (N := some 118) (v := ?_) (a' := ?_) #[Y,Y,Y,Y,Y,Y,Y,Y,Y,Y,Y,Y,Y,Y,Y,Y,Y,Y,Y,Y,Y,Y,Y,Y,Y,Y,Y,Y,Y,Y,Y,Z,Z,Z,Z,Z,Z,Z,Z,Z,Z,Z,Z,Z,Z] rfl rfl (any_of HT_.out (by kernel_rfl)) (fun _ _ _ h => h) (Or.inl ⟨by rfl, ?_⟩) ?_ ?_
              rotate_left
              ·
               intro w'
               go_simp
               with_reducible rfl
              rotate_left
              ·
               simp only [Act.put, List.setIfInBounds_toArray, List.set_cons_zero, List.set_cons_succ, i64_w, i32_w]
               rfl
              refine pure_ (i := 31) (N := some 119) (v := ?_) (a' := ?_) #[Y,Y,Y,Y,Y,Y,Y,Y,Y,Y,Y,Y,Y,Y,Y,Y,Y,Y,Y,Y,Y,Y,Y,Y,Y,Y,Y,Y,Y,Y,Y,Y,Z,Z,Z,Z,Z,Z,Z,Z,Z,Z,Z,Z,Z] rfl rfl (any_of HT_.out (by kernel_rfl)) (fun _ _ _ h => h) (Or.inl ⟨by rfl, ?_⟩) ?_ ?_
              rotate_left
              ·
               intro w'
               go_simp
               with_reducible rfl
              rotate_left
              ·
               simp only [Act.put, List.setIfInBounds_toArray, List.set_cons_zero, List.set_cons_succ, i64_w, i32_w]
               rfl
              refine pure_ (i := 32) (N := some 120) (v := ?_) (a' := ?_) #[Y,Y,Y,Y,Y,Y,Y,Y,Y,Y,Y,Y,Y,Y,Y,Y,Y,Y,Y,Y,Y,Y,Y,Y,Y,Y,Y,Y,Y,Y,Y,Y,Y,Z,Z,Z,Z,Z,Z,Z,Z,Z,Z,Z,Z] rfl rfl (any_of HT_.out (by kernel_rfl)) (fun _ _ _ h => h) (Or.inl ⟨by rfl, ?_⟩) ?_ ?_
              rotate_left
              ·
               intro w'
               go_simp
               with_reducible rfl
              rotate_left
              ·
               simp only [Act.put, List.setIfInBounds_toArray, List.set_cons_zero, List.set_cons_succ, i64_w, i32_w]
               rfl
              refine pure_ (i := 33) (N := some 121) (v := ?_) (a' := ?_) #[Y,Y,Y,Y,Y,Y,Y,Y,Y,Y,Y,Y,Y,Y,Y,Y,Y,Y,Y,Y,Y,Y,Y,Y,Y,Y,Y,Y,Y,Y,Y,Y,Y,Y,Z,Z,Z,Z,Z,Z,Z,Z,Z,Z,Z] rfl rfl (any_of HT_.out (by kernel_rfl)) (fun _ _ _ h => h) (Or.inl ⟨by rfl, ?_⟩) ?_ ?_
              rotate_left
              ·
               intro w'
               go_simp
               with_reducible rfl
              rotate_left
              ·
               simp only [Act.put, List.setIfInBounds_toArray, List.set_cons_zero, List.set_cons_succ, i64_w, i32_w]
               rfl
              refine pure_ (i := 36) (N := some 124) (v := ?_) (a' := ?_) #[Y,Y,Y,Y,Y,Y,Y,Y,Y,Y,Y,Y,Y,Y,Y,Y,Y,Y,Y,Y,Y,Y,Y,Y,Y,Y,Y,Y,Y,Y,Y,Y,Y,Y,Z,Z,Y,Z,Z,Z,Z,Z,Z,Z,Z] rfl rfl (any_of HT_.out (by kernel_rfl)) (fun _ _ _ h => h) (Or.inl ⟨by rfl, ?_⟩) ?_ ?_
              rotate_left
              ·
               intro w'
               go_simp
               with_reducible rfl
              rotate_left
              ·
               simp only [Act.put, List.setIfInBounds_toArray, List.set_cons_zero, List.set_cons_succ, i64_w, i32_w]
               rfl
              refine pure_ (i := 38) (N := some 126) (v := ?_) (a' := ?_) #[Y,Y,Y,Y,Y,Y,Y,Y,Y,Y,Y,Y,Y,Y,Y,Y,Y,Y,Y,Y,Y,Y,Y,Y,Y,Y,Y,Y,Y,Y,Y,Y,Y,Y,Z,Z,Y,Z,Y,Z,Z,Z,Z,Z,Z] rfl rfl (any_of HT_.out (by kernel_rfl)) (fun _ _ _ h => h) (Or.inl ⟨by rfl, ?_⟩) ?_ ?_
              rotate_left
              ·
               intro w'
               go_simp
               with_reducible rfl
              rotate_left
              ·
               simp only [Act.put, List.setIfInBounds_toArray, List.set_cons_zero, List.set_cons_succ, i64_w, i32_w]
               rfl
              refine take_ (i := 34) (N := some 122) (v := ?_) (a' := ?_) #[Y,Y,Y,Y,Y,Y,Y,Y,Y,Y,Y,Y,Y,Y,Y,Y,Y,Y,Y,Y,Y,Y,Y,Y,Y,Y,Y,Y,Y,Y,Y,Y,Y,Y,Y,Z,Y,Z,Y,Z,Z,Z,Z,Z,Z] rfl rfl (take_ofW HT_.out HW_.out (by kernel_rfl)) (fun _ _ _ h => h) (Or.inl ⟨by rfl, ?_⟩) hHeld ?_ ?_
              rotate_left
              ·
               rintro w' ⟨s0, s1, s2, s3, s4, s5, s6, s7, s8, s9, s10, s11, s12, s13, s14, s15, s16, s17, s18, s19, s20, s21, s22, s23, s24⟩
               go_simp
               with_reducible rfl
              rotate_left
              ·
               simp only [Act.put, List.setIfInBounds_toArray, List.set_cons_zero, List.set_cons_succ, i64_w, i32_w]
               rfl
              refine take_ (i := 37) (N := some 125) (v := ?_) (a' := ?_) #[Y,Y,Y,Y,Y,Y,Y,Y,Y,Y,Y,Y,Y,Y,Y,Y,Y,Y,Y,Y,Y,Y,Y,Y,Y,Y,Y,Y,Y,Y,Y,Y,Y,Y,Y,Z,Y,Y,Y,Z,Z,Z,Z,Z,Z] rfl rfl (take_ofW HT_.out HW_.out (by kernel_rfl)) (fun _ _ _ h => h) (Or.inl ⟨by rfl, ?_⟩) hHeld ?_ ?_
              rotate_left
              ·
               rintro w' ⟨s0, s1, s2, s3, s4, s5, s6, s7, s8, s9, s10, s11, s12, s13, s14, s15, s16, s17, s18, s19, s20, s21, s22, s23, s24⟩
               go_simp
               with_reducible rfl
              rotate_left
              ·
               simp only [Act.put, List.setIfInBounds_toArray, List.set_cons_zero, List.set_cons_succ, i64_w, i32_w]
               rfl
              refine take_ (i := 39) (N := some 127) (v := ?_) (a' := ?_) #[Y,Y,Y,Y,Y,Y,Y,Y,Y,Y,Y,Y,Y,Y,Y,Y,Y,Y,Y,Y,Y,Y,Y,Y,Y,Y,Y,Y,Y,Y,Y,Y,Y,Y,Y,Z,Y,Y,Y,Y,Z,Z,Z,Z,Z] rfl rfl (take_ofW HT_.out HW_.out (by kernel_rfl)) (fun _ _ _ h => h) (Or.inl ⟨by rfl, ?_⟩) hHeld ?_ ?_
              rotate_left
              ·
               rintro w' ⟨s0, s1, s2, s3, s4, s5, s6, s7, s8, s9, s10, s11, s12, s13, s14, s15, s16, s17, s18, s19, s20, s21, s22, s23, s24⟩
               go_simp
               with_reducible rfl
              rotate_left
              ·
               simp only [Act.put, List.setIfInBounds_toArray, List.set_cons_zero, List.set_cons_succ, i64_w, i32_w]
               rfl
              refine pure_ (i := 40) (N := some 128) (v := ?_) (a' := ?_) #[Y,Y,Y,Y,Y,Y,Y,Y,Y,Y,Y,Y,Y,Y,Y,Y,Y,Y,Y,Y,Y,Y,Y,Y,Y,Y,Y,Y,Y,Y,Y,Y,Y,Y,Y,Z,Y,Y,Y,Y,Y,Z,Z,Z,Z] rfl rfl (any_of HT_.out (by kernel_rfl)) (fun _ _ _ h => h) (Or.inl ⟨by rfl, ?_⟩) ?_ ?_
              rotate_left
              ·
               intro w'
               go_simp
               with_reducible rfl
              rotate_left
              ·
               simp only [Act.put, List.setIfInBounds_toArray, List.set_cons_zero, List.set_cons_succ, i64_w, i32_w]
               rfl
              refine pure_ (i := 41) (N := some 129) (v := ?_) (a' := ?_) #[Y,Y,Y,Y,Y,Y,Y,Y,Y,Y,Y,Y,Y,Y,Y,Y,Y,Y,Y,Y,Y,Y,Y,Y,Y,Y,Y,Y,Y,Y,Y,Y,Y,Y,Y,Z,Y,Y,Y,Y,Y,Y,Z,Z,Z] rfl rfl (any_of HT_.out (by kernel_rfl)) (fun _ _ _ h => h) (Or.inl ⟨by rfl, ?_⟩) ?_ ?_
              rotate_left
              ·
               intro w'
               go_simp
               with_reducible rfl
              rotate_left
              ·
               simp only [Act.put, List.setIfInBounds_toArray, List.set_cons_zero, List.set_cons_succ, i64_w, i32_w]
               rfl
              refine one_ (i := 35) (N := some 123) #[Y,Y,Y,Y,Y,Y,Y,Y,Y,Y,Y,Y,Y,Y,Y,Y,Y,Y,Y,Y,Y,Y,Y,Y,Y,Y,Y,Y,Y,Y,Y,Y,Y,Y,Y,Y,Y,Y,Y,Y,Y,Y,Z,Z,Z] rfl rfl (one_of HT_.out (by kernel_rfl)) (by decide) (fun K hK => ?_)
              refine goes_ Try.func20 (by kernel_rfl) rfl #[.agg #[.int .i64 a0_0, .slice A0_1 l0_1.length c0_1, .slice A0_2 l0_2.length c0_2]] (by rfl) rfl rfl (by (try simp only [List.map_toArray, List.map_cons, List.map_nil]); first | done | rfl | (simp only [List.length_drop, List.length_take]; rfl)) ?_
              with_reducible refine (net_Free.calls a0_0 _ _ l0_1 _ _ l0_2 t419 _ ?side1 ?side2 ?side3 ?side4 A59.out).mono ?_
              (case side1 => repeat (first | exact (Kd.C_below HR0_1.out HB.out) | (with_reducible refine Kd.C_alloc ?_ _) | (with_reducible refine Kd.C_drewN ?_ _) | (with_reducible refine Kd.C_drew ?_)))
              (case side2 => exact HC0_1.out)
              (case side3 => repeat (first | exact (Kd.C_below HR0_2.out HB.out) | (with_reducible refine Kd.C_alloc ?_ _) | (with_reducible refine Kd.C_drewN ?_ _) | (with_reducible refine Kd.C_drew ?_)))
              (case side4 => exact HC0_2.out)
              rintro e w162 ⟨rfl, hb⟩
              refine ⟨_, rfl, ?_⟩
              have n14_ := Aside0.mk (bb_ BK341.out hb)
              have n16_ := Aside0.mk (bb_ BK359.out hb)
              have n17_ := Aside0.mk (bb_ BK368.out hb)
              have n18_ := Aside0.mk (bb_ BK381.out hb)
              have n19_ := Aside0.mk (bb_ BK382.out hb)
              have n20_ := Aside0.mk (bb_ BK395.out hb)
              have n21_ := Aside0.mk (bb_ BK396.out hb)
              have n22_ := Aside0.mk (bb_ BK405.out hb)
              have n23_ := Aside0.mk (bb_ BK414.out hb)
              have n24_ := Aside0.mk (bs_ hb)
              clear BK341 BK359 BK368 BK381 BK382 BK395 BK396 BK405 BK414 HB
              have BK341 := n14_
              have BK359 := n16_
              have BK368 := n17_
              have BK381 := n18_
              have BK382 := n19_
              have BK395 := n20_
              have BK396 := n21_
              have BK405 := n22_
              have BK414 := n23_
              have HB := n24_
              clear n14_ n16_ n17_ n18_ n19_ n20_ n21_ n22_ n23_ n24_
              (try clear hb)
              (try clear hb2)
              (try clear hk)
              (try clear hi)
              refine hK.out _ _ ⟨(blk_cell BK359.out 0).trans rfl, (blk_cell BK359.out 1).trans rfl, (blk_cell BK359.out 2).trans rfl, (blk_cell BK368.out 0).trans rfl, (blk_cell BK368.out 1).trans rfl, (blk_cell BK368.out 2).trans rfl, (blk_cell BK381.out 0).trans rfl, (blk_cell BK381.out 1).trans rfl, (blk_cell BK381.out 2).trans rfl, (blk_cell BK395.out 0).trans rfl, (blk_cell BK395.out 1).trans rfl, (blk_cell BK395.out 2).trans rfl, (blk_cell BK382.out 0).trans rfl, (blk_cell BK382.out 1).trans rfl, (blk_cell BK396.out 0).trans rfl, (blk_cell BK396.out 1).trans rfl, (blk_cell BK405.out 0).trans rfl, (blk_cell BK405.out 1).trans rfl, (blk_cell BK405.out 2).trans rfl, (blk_cell BK414.out 0).trans rfl, (blk_cell BK414.out 1).trans rfl, (blk_cell BK414.out 2).trans rfl, (blk_cell BK341.out 0).trans rfl, (blk_cell BK341.out 1).trans rfl, (blk_cell BK341.out 2).trans rfl⟩ (fun hHeld => ?_)
              clear hK K
              refine norm_ (a' := ?_) ?_ ?_
              rotate_left
              ·
               show Act.put _ (some 123) _ = _
               simp only [Act.put, List.setIfInBounds_toArray, List.set_cons_zero, List.set_cons_succ, i64_w, i32_w]
               rfl
              refine pure_ (i := 42) (N := some 130) (v := ?_) (a' := ?_) #[Y,Y,Y,Y,Y,Y,Y,Y,Y,Y,Y,Y,Y,Y,Y,Y,Y,Y,Y,Y,Y,Y,Y,Y,Y,Y,Y,Y,Y,Y,Y,Y,Y,Y,Y,Y,Y,Y,Y,Y,Y,Y,Y,Z,Z] rfl rfl (any_of HT_.out (by kernel_rfl)) (fun _ _ _ h => h) (Or.inl ⟨by rfl, ?_⟩) ?_ ?_
              rotate_left
              ·
               intro w'
               go_simp
               with_reducible rfl
              rotate_left
              ·
               simp only [Act.put, List.setIfInBounds_toArray, List.set_cons_zero, List.set_cons_succ, i64_w, i32_w]
               rfl
              refine pure_ (i := 43) (N := some 131) (v := ?_) (a' := ?_) #[Y,Y,Y,Y,Y,Y,Y,Y,Y,Y,Y,Y,Y,Y,Y,Y,Y,Y,Y,Y,Y,Y,Y,Y,Y,Y,Y,Y,Y,Y,Y,Y,Y,Y,Y,Y,Y,Y,Y,Y,Y,Y,Y,Y,Z] rfl rfl (any_of HT_.out (by kernel_rfl)) (fun _ _ _ h => h) (Or.inl ⟨by rfl, ?_⟩) ?_ ?_
              rotate_left
              ·
               intro w'
               go_simp
               with_reducible rfl
              rotate_left
              ·
               simp only [Act.put, List.setIfInBounds_toArray, List.set_cons_zero, List.set_cons_succ, i64_w, i32_w]
               rfl
              refine pure_ (i := 44) (N := some 6) (v := ?_) (a' := ?_) #[Y,Y,Y,Y,Y,Y,Y,Y,Y,Y,Y,Y,Y,Y,Y,Y,Y,Y,Y,Y,Y,Y,Y,Y,Y,Y,Y,Y,Y,Y,Y,Y,Y,Y,Y,Y,Y,Y,Y,Y,Y,Y,Y,Y,Y] rfl rfl (any_of HT_.out (by kernel_rfl)) (fun _ _ _ h => h) (Or.inl ⟨by rfl, ?_⟩) ?_ ?_
              rotate_left
              ·
               intro w'
               go_simp
               with_reducible rfl
              rotate_left
              ·
               simp only [Act.put, List.setIfInBounds_toArray, List.set_cons_zero, List.set_cons_succ, i64_w, i32_w]
               rfl
              refine done_ (done_of HT_.out (by kernel_rfl)) ?_
              try go_wp2
              go_ret
              exact ⟨by first | rfl | (simp [errW_none, errW_some] <;> rfl) | (simp [*, errW_none, errW_some] <;> rfl), by repeat (first | (with_reducible first | exact HB.out | apply below_alloc | apply pw_below_drewN | apply below_drew1 | refine below_set ?_ GE341.out | refine below_set ?_ GE342.out | refine below_set ?_ GE359.out | refine below_set ?_ GE368.out | refine below_set ?_ GE381.out | refine below_set ?_ GE382.out | refine below_set ?_ GE395.out | refine below_set ?_ GE396.out | refine below_set ?_ GE405.out | refine below_set ?_ GE414.out) | exact HB.out)⟩
             ·
              rw [if_neg c58] at H
              have c58b0 : (t404 == t413) = false := beq_eq_false_iff_ne.mpr c58
              have c58b1 : (t404 != t413) = true := bne_iff_ne.mpr c58
              exact absurd (hT.out.symm.trans (Option.some.inj H).symm) (by decide)
            ·
             replace c57 := Bool.eq_false_iff.mpr c57
             subst c57
             have H1 : (some false) = some r := by rw [if_neg (show ¬ (false = true) by decide)] at H; exact H
             clear H
             have H := H1
             clear H1
             exact absurd (hT.out.symm.trans (Option.some.inj H).symm) (by decide)
           ·
            rw [if_neg c55] at H
            have c55b0 : (t380 == t394) = false := beq_eq_false_iff_ne.mpr c55
            have c55b1 : (t380 != t394) = true := bne_iff_ne.mpr c55
            exact absurd (hT.out.symm.trans (Option.some.inj H).symm) (by decide)
          ·
           replace c54 := Bool.eq_false_iff.mpr c54
           subst c54
           have H1 : (some false) = some r := by rw [if_neg (show ¬ (false = true) by decide)] at H; exact H
           clear H
           have H := H1
           clear H1
           exact absurd (hT.out.symm.trans (Option.some.inj H).symm) (by decide)
         ·
          replace c52 := Bool.eq_false_iff.mpr c52
          subst c52
          have H1 : (some false) = some r := by rw [if_neg (show ¬ (false = true) by decide)] at H; exact H
          clear H
          have H := H1
          clear H1
          exact absurd (hT.out.symm.trans (Option.some.inj H).symm) (by decide)
        ·
         rw [if_neg c50] at H
         have c50b0 : (t358 == t367) = false := beq_eq_false_iff_ne.mpr c50
         have c50b1 : (t358 != t367) = true := bne_iff_ne.mpr c50
         exact absurd (hT.out.symm.trans (Option.some.inj H).symm) (by decide)
       ·
        replace c49 := Bool.eq_false_iff.mpr c49
        subst c49
        have H1 : (some false) = some r := by rw [if_neg (show ¬ (false = true) by decide)] at H; exact H
        clear H
        have H := H1
        clear H1
        exact absurd (hT.out.symm.trans (Option.some.inj H).symm) (by decide)

end Go.Proofs.Ytlbfdmoocgjiaaa.PNetDoes
