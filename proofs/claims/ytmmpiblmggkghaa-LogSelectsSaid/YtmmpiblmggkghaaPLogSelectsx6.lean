-- Written for this claim by wip/tools/myprint.py (print.py's forms; proofs of the faked functions by hand).
import Derived.Test.YtmmpiblmggkghaaPLogSelectsx1
import Derived.Test.YtmmpiblmggkghaaPLogSelectsx3
import Derived.Test.YtmmpiblmggkghaaPLogSelectsx0
import Derived.Test.YtmmpiblmggkghaaPLogSelectsx2
import Derived.Test.YtmmpiblmggkghaaPLogSelectsx4
import Derived.Test.YtmmpiblmggkghaaPLogSelectsx5
namespace Go.Proofs.Ytmmpiblmggkghaa.PLogSelects
open Go.RowKit Go.Proofs.YtmmpiblmggkghaaW.PrintWords Go.Proofs.YtmmpiblmggkghaaW.PrintLast Go.Proofs.YtmmpiblmggkghaaW.PrintMore
attribute [local go_sem] max2_int min2_int max_two min_two max_three min_three max_four min_four   -- for this text's walks alone
set_option linter.unusedVariables false
set_option linter.unusedSimpArgs false

/-! ### chamberlainlaw19_LogSelects: function 3 -/
mutual
def chamberlainlaw19_LogSelects.j0 : Nat → List (S25) → Int → Bool → Int → Int → Int → Int → Int → Int → Int → Int → Int → Int → Option (Bool)
  | 0, _, _, _, _, _, _, _, _, _, _, _, _, _ => none
  | k + 1, x0, x2, x15, x178000, x178001, x178002, x178003, x178004, x178005, x178006, x178007, x178008, x178009 => if x15 = true then ((chamberlainlaw19_awake.f k).bind fun t179 => (some t179)) else (chamberlainlaw19_LogSelects.l0 k x0 (wrap64 (Int.tmod x2 512)) 0 x178000 x178001 x178002 x178003 x178004 x178005 x178006 x178007 x178008 x178009)
def chamberlainlaw19_LogSelects.l0 : Nat → List (S25) → Int → Int → Int → Int → Int → Int → Int → Int → Int → Int → Int → Int → Option (Bool)
  | 0, _, _, _, _, _, _, _, _, _, _, _, _, _ => none
  | k + 1, x0, x7, x8, x178000, x178001, x178002, x178003, x178004, x178005, x178006, x178007, x178008, x178009 => if x8 < (x0.length : Int) then (if 0 ≤ x8 then ((log_Fits.f ((rd_T25 x0 x8).f0) ((rd_T25 x0 x8).f1) ((rd_T25 x0 x8).f2) ((rd_T25 x0 x8).f3) ((rd_T25 x0 x8).f4) ((rd_T25 x0 x8).f5) ((rd_T25 x0 x8).f6) ((rd_T25 x0 x8).f7) ((rd_T25 x0 x8).f8) ((rd_T25 x0 x8).f9) x178000 x178001 x178002 x178003 x178004 x178005 x178006 x178007 x178008 x178009 x7).bind fun t188 => ((chamberlainref19_Fits.f ((rd_T25 x0 x8).f0) ((rd_T25 x0 x8).f1) ((rd_T25 x0 x8).f2) ((rd_T25 x0 x8).f3) ((rd_T25 x0 x8).f4) ((rd_T25 x0 x8).f5) ((rd_T25 x0 x8).f6) ((rd_T25 x0 x8).f7) ((rd_T25 x0 x8).f8) ((rd_T25 x0 x8).f9) x178000 x178001 x178002 x178003 x178004 x178005 x178006 x178007 x178008 x178009 x7).bind fun t190 => (if (t188 != t190) = true then (some false) else ((log_Fits.f x178000 x178001 x178002 x178003 x178004 x178005 x178006 x178007 x178008 x178009 ((rd_T25 x0 x8).f0) ((rd_T25 x0 x8).f1) ((rd_T25 x0 x8).f2) ((rd_T25 x0 x8).f3) ((rd_T25 x0 x8).f4) ((rd_T25 x0 x8).f5) ((rd_T25 x0 x8).f6) ((rd_T25 x0 x8).f7) ((rd_T25 x0 x8).f8) ((rd_T25 x0 x8).f9) x7).bind fun t192 => ((chamberlainref19_Fits.f ((rd_T25 x0 x8).f0) ((rd_T25 x0 x8).f1) ((rd_T25 x0 x8).f2) ((rd_T25 x0 x8).f3) ((rd_T25 x0 x8).f4) ((rd_T25 x0 x8).f5) ((rd_T25 x0 x8).f6) ((rd_T25 x0 x8).f7) ((rd_T25 x0 x8).f8) ((rd_T25 x0 x8).f9) x178000 x178001 x178002 x178003 x178004 x178005 x178006 x178007 x178008 x178009 x7).bind fun t194 => (if (t192 != t194) = true then (some false) else (chamberlainlaw19_LogSelects.l0 k x0 x7 (wrap64 (x8 + 1)) x178000 x178001 x178002 x178003 x178004 x178005 x178006 x178007 x178008 x178009))))))) else (none)) else ((log_Select.f k x0 x178000 x178001 x178002 x178003 x178004 x178005 x178006 x178007 x178008 x178009 x7).bind fun t180 => ((chamberlainref19_Select.f k x0 x178000 x178001 x178002 x178003 x178004 x178005 x178006 x178007 x178008 x178009 x7).bind fun t183 => ((chamberlainref12_Events.f k t180 t183).bind fun t186 => (some t186))))
end
def chamberlainlaw19_LogSelects.f (k : Nat) (l0 : List (S25)) (a1_0 : Int) (a1_1 : Int) (a1_2 : Int) (a1_3 : Int) (a1_4 : Int) (a1_5 : Int) (a1_6 : Int) (a1_7 : Int) (a1_8 : Int) (a1_9 : Int) (a2 : Int) : Option (Bool) := (chamberlainlaw19_awake.f k).bind fun t178 => (if t178 = true then (chamberlainlaw19_LogSelects.j0 k l0 a2 (decide ((l0.length : Int) > 200)) a1_0 a1_1 a1_2 a1_3 a1_4 a1_5 a1_6 a1_7 a1_8 a1_9) else (chamberlainlaw19_LogSelects.j0 k l0 a2 true a1_0 a1_1 a1_2 a1_3 a1_4 a1_5 a1_6 a1_7 a1_8 a1_9))
theorem chamberlainlaw19_LogSelects.mono_l : ∀ k, (∀ y0 y1 y2 y3 y4 y5 y6 y7 y8 y9 y10 y11 y12, LeO (chamberlainlaw19_LogSelects.j0 k y0 y1 y2 y3 y4 y5 y6 y7 y8 y9 y10 y11 y12) (chamberlainlaw19_LogSelects.j0 (k + 1) y0 y1 y2 y3 y4 y5 y6 y7 y8 y9 y10 y11 y12)) ∧ (∀ y0 y1 y2 y3 y4 y5 y6 y7 y8 y9 y10 y11 y12, LeO (chamberlainlaw19_LogSelects.l0 k y0 y1 y2 y3 y4 y5 y6 y7 y8 y9 y10 y11 y12) (chamberlainlaw19_LogSelects.l0 (k + 1) y0 y1 y2 y3 y4 y5 y6 y7 y8 y9 y10 y11 y12))
  | 0 => ⟨fun _ _ _ _ _ _ _ _ _ _ _ _ _ r h => by simp [chamberlainlaw19_LogSelects.j0] at h, fun _ _ _ _ _ _ _ _ _ _ _ _ _ r h => by simp [chamberlainlaw19_LogSelects.l0] at h⟩
  | k + 1 => by
    obtain ⟨ih0, ih1⟩ := chamberlainlaw19_LogSelects.mono_l k
    refine ⟨?_, ?_⟩
    · intro y0 y1 y2 y3 y4 y5 y6 y7 y8 y9 y10 y11 y12
      unfold chamberlainlaw19_LogSelects.j0
      repeat' first
      | (with_reducible exact ih0 _ _ _ _ _ _ _ _ _ _ _ _ _)
      | (with_reducible exact ih1 _ _ _ _ _ _ _ _ _ _ _ _ _)
      | (with_reducible exact chamberlainlaw19_awake.mono _)
      | (with_reducible exact chamberlainref12_Events.mono _ _ _)
      | (with_reducible exact chamberlainref19_Select.mono _ _ _ _ _ _ _ _ _ _ _ _ _)
      | (with_reducible exact log_Select.mono _ _ _ _ _ _ _ _ _ _ _ _ _)
      | (with_reducible exact LeO.refl _)
      | (with_reducible exact LeO.none _)
      | (with_reducible refine LeO.ite ?_ ?_)
      | (with_reducible refine LeO.bind ?_ (fun _ => ?_))
      | exact ih0 _ _ _ _ _ _ _ _ _ _ _ _ _
      | exact ih1 _ _ _ _ _ _ _ _ _ _ _ _ _
      | exact chamberlainlaw19_awake.mono _
      | exact chamberlainref12_Events.mono _ _ _
      | exact chamberlainref19_Select.mono _ _ _ _ _ _ _ _ _ _ _ _ _
      | exact log_Select.mono _ _ _ _ _ _ _ _ _ _ _ _ _
      | exact LeO.none _
      | refine LeO.ite ?_ ?_
      | refine LeO.bind ?_ (fun _ => ?_)
    · intro y0 y1 y2 y3 y4 y5 y6 y7 y8 y9 y10 y11 y12
      unfold chamberlainlaw19_LogSelects.l0
      repeat' first
      | (with_reducible exact ih0 _ _ _ _ _ _ _ _ _ _ _ _ _)
      | (with_reducible exact ih1 _ _ _ _ _ _ _ _ _ _ _ _ _)
      | (with_reducible exact chamberlainlaw19_awake.mono _)
      | (with_reducible exact chamberlainref12_Events.mono _ _ _)
      | (with_reducible exact chamberlainref19_Select.mono _ _ _ _ _ _ _ _ _ _ _ _ _)
      | (with_reducible exact log_Select.mono _ _ _ _ _ _ _ _ _ _ _ _ _)
      | (with_reducible exact LeO.refl _)
      | (with_reducible exact LeO.none _)
      | (with_reducible refine LeO.ite ?_ ?_)
      | (with_reducible refine LeO.bind ?_ (fun _ => ?_))
      | exact ih0 _ _ _ _ _ _ _ _ _ _ _ _ _
      | exact ih1 _ _ _ _ _ _ _ _ _ _ _ _ _
      | exact chamberlainlaw19_awake.mono _
      | exact chamberlainref12_Events.mono _ _ _
      | exact chamberlainref19_Select.mono _ _ _ _ _ _ _ _ _ _ _ _ _
      | exact log_Select.mono _ _ _ _ _ _ _ _ _ _ _ _ _
      | exact LeO.none _
      | refine LeO.ite ?_ ?_
      | refine LeO.bind ?_ (fun _ => ?_)
theorem chamberlainlaw19_LogSelects.mono : ∀ a0 a1 a2 a3 a4 a5 a6 a7 a8 a9 a10 a11 k, LeO (chamberlainlaw19_LogSelects.f k a0 a1 a2 a3 a4 a5 a6 a7 a8 a9 a10 a11) (chamberlainlaw19_LogSelects.f (k + 1) a0 a1 a2 a3 a4 a5 a6 a7 a8 a9 a10 a11) := by
  intro a0 a1 a2 a3 a4 a5 a6 a7 a8 a9 a10 a11 k
  obtain ⟨ih0, ih1⟩ := chamberlainlaw19_LogSelects.mono_l k
  unfold chamberlainlaw19_LogSelects.f
  repeat' first
      | (with_reducible exact ih0 _ _ _ _ _ _ _ _ _ _ _ _ _)
      | (with_reducible exact ih1 _ _ _ _ _ _ _ _ _ _ _ _ _)
      | (with_reducible exact chamberlainlaw19_awake.mono _)
      | (with_reducible exact chamberlainref12_Events.mono _ _ _)
      | (with_reducible exact chamberlainref19_Select.mono _ _ _ _ _ _ _ _ _ _ _ _ _)
      | (with_reducible exact log_Select.mono _ _ _ _ _ _ _ _ _ _ _ _ _)
      | (with_reducible exact LeO.refl _)
      | (with_reducible exact LeO.none _)
      | (with_reducible refine LeO.ite ?_ ?_)
      | (with_reducible refine LeO.bind ?_ (fun _ => ?_))
      | exact ih0 _ _ _ _ _ _ _ _ _ _ _ _ _
      | exact ih1 _ _ _ _ _ _ _ _ _ _ _ _ _
      | exact chamberlainlaw19_awake.mono _
      | exact chamberlainref12_Events.mono _ _ _
      | exact chamberlainref19_Select.mono _ _ _ _ _ _ _ _ _ _ _ _ _
      | exact log_Select.mono _ _ _ _ _ _ _ _ _ _ _ _ _
      | exact LeO.none _
      | refine LeO.ite ?_ ?_
      | refine LeO.bind ?_ (fun _ => ?_)
def chamberlainlaw19_LogSelects.T7 : Bool × List (List Nat × List Nat) := (true, [([], []), ([], []), ([0, 1], [0, 1]), ([2], [2]), ([], []), ([], []), ([3, 4, 5], [3, 4, 5]), ([], []), ([], []), ([7, 8], [7, 8]), ([9], [9]), ([], []), ([], []), ([10, 11, 12, 6], [10, 11, 12]), ([6, 13], [6, 13]), ([14, 13], [14]), ([15], [15]), ([15], [15]), ([15], [15]), ([17, 18, 15], [15, 17, 18]), ([19, 15], [15, 19]), ([15], [15]), ([16, 20, 21, 15, 15], [15, 16, 20, 21]), ([15], [15]), ([15], [15]), ([23, 24, 15], [15, 23, 24]), ([25, 15], [15, 25]), ([15], [15]), ([15], [15]), ([26, 27, 28, 22, 15], [15, 26, 27, 28]), ([22, 29, 15], [15, 22, 29]), ([15, 30], [15, 30])])
def chamberlainlaw19_LogSelects.B7 : List Nat := [0, 0, 3, 7, 0, 0, 63, 0, 0, 384, 896, 0, 0, 8191, 16383, 32767, 65535, 65535, 65535, 458751, 983039, 65535, 4194303, 65535, 65535, 25231359, 58785791, 65535, 65535, 536870911, 1073741823, 2147483647]
theorem chamberlainlaw19_LogSelects.tab7 : rtab .any (opsOf Try.f3 7) = chamberlainlaw19_LogSelects.T7 := by kernel_rfl
theorem chamberlainlaw19_LogSelects.bits7 : waitsOk chamberlainlaw19_LogSelects.T7.2 chamberlainlaw19_LogSelects.B7 = true := by kernel_rfl
def chamberlainlaw19_LogSelects.T9 : Bool × List (List Nat × List Nat) := (true, [([], []), ([], []), ([], []), ([0, 1, 2], [0, 1, 2]), ([], []), ([], []), ([], []), ([4, 5, 6, 3], [4, 5, 6]), ([3, 7, 7], [3, 7]), ([8, 8, 0, 1, 2, 3, 4, 5, 6, 7, 8], [8])])
def chamberlainlaw19_LogSelects.B9 : List Nat := [0, 0, 0, 7, 0, 0, 0, 127, 255, 511]
theorem chamberlainlaw19_LogSelects.tab9 : rtab .any (opsOf Try.f3 9) = chamberlainlaw19_LogSelects.T9 := by kernel_rfl
theorem chamberlainlaw19_LogSelects.bits9 : waitsOk chamberlainlaw19_LogSelects.T9.2 chamberlainlaw19_LogSelects.B9 = true := by kernel_rfl
set_option maxHeartbeats 8000000 in
set_option maxRecDepth 100000 in
theorem chamberlainlaw19_LogSelects.calls (k : Nat) (A0 : Option Addr) (c0 : Nat) (l0 : List (S25)) (a1_0 : Int) (a1_1 : Int) (a1_2 : Int) (a1_3 : Int) (a1_4 : Int) (a1_5 : Int) (a1_6 : Int) (a1_7 : Int) (a1_8 : Int) (a1_9 : Int) (a2 : Int) (r : Bool) (w : World) (hr0 : Kd.C k25 w A0 l0.length l0) (hc0 : l0.length ≤ c0) (h : chamberlainlaw19_LogSelects.f k l0 a1_0 a1_1 a1_2 a1_3 a1_4 a1_5 a1_6 a1_7 a1_8 a1_9 a2 = some r) (hT0 : r = true) :
    Calls Try.prog 3 #[.slice A0 l0.length c0, .agg #[.int .i64 a1_0, .int .i64 a1_1, .int .i64 a1_2, .int .u32 a1_3, .int .u32 a1_4, .int .u32 a1_5, .int .u32 a1_6, .int .u32 a1_7, .int .u32 a1_8, .int .u32 a1_9], .int .u16 a2] w fun e w' => e = .returned (.bool r) ∧ Below w.heap.size w w' := by
  have hT := Aside0.mk hT0
  clear hT0
  have hu25 := Try.underlying25
  have HR0 := Aside0.mk hr0
  have HC0 := Aside0.mk hc0
  clear hr0 hc0
  have HB := Aside0.mk (Below.refl w.heap.size w)
  have H : ((chamberlainlaw19_awake.f k).bind fun t178 => (if t178 = true then (chamberlainlaw19_LogSelects.j0 k l0 a2 (decide ((l0.length : Int) > 200)) a1_0 a1_1 a1_2 a1_3 a1_4 a1_5 a1_6 a1_7 a1_8 a1_9) else (chamberlainlaw19_LogSelects.j0 k l0 a2 true a1_0 a1_1 a1_2 a1_3 a1_4 a1_5 a1_6 a1_7 a1_8 a1_9))) = some r := h
  clear h
  have HC4 := Aside0.mk H
  clear H
  go_enter Try.func3, Try.ntmps3
  go_upto_region 1 with (first | ((with_reducible refine gate_dst (N := 4) rfl ?_); (try (refine gate_guard (by rfl) ?_; dsimp only)); refine box_event ?hg (N := 4) ?hd (cs := #[.int .i64 a1_0, .int .i64 a1_1, .int .i64 a1_2, .int .u32 a1_3, .int .u32 a1_4, .int .u32 a1_5, .int .u32 a1_6, .int .u32 a1_7, .int .u32 a1_8, .int .u32 a1_9]) (t := 25) ?hr ?_; (case hd => rfl); (case hg => rfl); (case hr => first | (go_simp; done) | (go_simp; rfl)); intro gb177 hg w5 hbox hb; have n0_ := Aside0.mk (below_step (by repeat (first | (with_reducible first | exact HB.out | apply below_alloc | apply pw_below_drewN | apply below_drew1) | exact HB.out)) hb); have n1_ := Aside0.mk (hbox); have n2_ := Aside0.mk ((by rw [hg]; exact (below_size (by repeat (first | (with_reducible first | exact HB.out | apply below_alloc | apply pw_below_drewN | apply below_drew1) | exact HB.out))) : w.heap.size ≤ gb177)); have n3_ := Aside0.mk ((by rw [hg]; exact (below_size (by repeat (first | (with_reducible first | exact HB.out | apply below_alloc | apply pw_below_drewN | apply below_drew1) | exact HB.out))) : w.heap.size ≤ gb177)); clear HB; have HB := n0_; have BK177 := n1_; have GW177 := n2_; have GE177 := n3_; clear n0_ n1_ n2_ n3_; clear hb hbox hg))
  (try simp only [Act.put, List.setIfInBounds_toArray, List.set_cons_zero, List.set_cons_succ])
  go_cut [15] (fun v15 wc => ∃ (kq : Nat) (x15_3 : Bool), v15 = .bool x15_3 ∧ Aside0 (chamberlainlaw19_LogSelects.j0 kq l0 a2 x15_3 a1_0 a1_1 a1_2 a1_3 a1_4 a1_5 a1_6 a1_7 a1_8 a1_9 = some r) ∧ Aside0 (kq ≤ k) ∧ Aside0 (wc.heap[gb177]? = some (.cells #[.int .i64 a1_0, .int .i64 a1_1, .int .i64 a1_2, .int .u32 a1_3, .int .u32 a1_4, .int .u32 a1_5, .int .u32 a1_6, .int .u32 a1_7, .int .u32 a1_8, .int .u32 a1_9] 25 (0, 0))) ∧ Aside0 (Below w.heap.size w wc))
  case first =>
    have H := HC4.out
    clear HC4
    replace H := Option.bind_eq_some_iff.mp H
    obtain ⟨t178, A60, H⟩ := H
    replace H : (if t178 = true then (chamberlainlaw19_LogSelects.j0 k l0 a2 (decide ((l0.length : Int) > 200)) a1_0 a1_1 a1_2 a1_3 a1_4 a1_5 a1_6 a1_7 a1_8 a1_9) else (chamberlainlaw19_LogSelects.j0 k l0 a2 true a1_0 a1_1 a1_2 a1_3 a1_4 a1_5 a1_6 a1_7 a1_8 a1_9)) = some r := H
    have A6 := Aside0.mk A60
    clear A60
    by_cases c7 : t178 = true
    · subst c7
      have H1 : (chamberlainlaw19_LogSelects.j0 k l0 a2 (decide ((l0.length : Int) > 200)) a1_0 a1_1 a1_2 a1_3 a1_4 a1_5 a1_6 a1_7 a1_8 a1_9) = some r := by rw [if_pos rfl] at H; exact H
      clear H
      have H := H1
      clear H1
      have H' := Aside0.mk H
      clear H
      go_wp2_with (first | ((with_reducible refine gate_callee (f := 9) rfl ?_); refine goesL_ (some 9) rfl rfl Try.func9 (by kernel_rfl) rfl #[] rfl (by (try simp only [List.map_toArray, List.map_cons, List.map_nil]); first | done | rfl | (simp only [List.length_drop, List.length_take]; rfl)) ?_; (with_reducible refine (chamberlainlaw19_awake.calls k  true _ A6.out).mono ?_); rintro e w8 ⟨rfl, hb⟩; refine ⟨_, rfl, ?_⟩; have n0_ := Aside0.mk (blk_below (g := gb177) (o := .cells #[.int .i64 a1_0, .int .i64 a1_1, .int .i64 a1_2, .int .u32 a1_3, .int .u32 a1_4, .int .u32 a1_5, .int .u32 a1_6, .int .u32 a1_7, .int .u32 a1_8, .int .u32 a1_9] 25 (0, 0)) (by (with_reducible repeat (first | refine blk_drewN ?_ _ | refine blk_drew ?_ | refine blk_alloc ?_ _)); exact BK177.out) hb); have n1_ := Aside0.mk (below_step (by repeat (first | (with_reducible first | exact HB.out | apply below_alloc | apply pw_below_drewN | apply below_drew1 | refine below_set ?_ GE177.out) | exact HB.out)) hb); clear BK177; clear HB; have BK177 := n0_; have HB := n1_; clear n0_ n1_; (try clear hb); (try clear hb2); (try clear hk); (try clear hi)))
      go_meet
      case rel => exact ⟨_, (decide ((l0.length : Int) > 200)), (by first | rfl | (simp; done) | (simp [*]; done)), H', ⟨by first | omega | exact Nat.le_refl _⟩, ⟨by (with_reducible repeat (first | refine blk_drewN ?_ _ | refine blk_drew ?_ | refine blk_alloc ?_ _)); exact BK177.out⟩, ⟨by repeat (first | (with_reducible first | exact HB.out | apply below_alloc | apply pw_below_drewN | apply below_drew1 | refine below_set ?_ GE177.out) | exact HB.out)⟩⟩
    · replace c7 := Bool.eq_false_iff.mpr c7
      subst c7
      have H1 : (chamberlainlaw19_LogSelects.j0 k l0 a2 true a1_0 a1_1 a1_2 a1_3 a1_4 a1_5 a1_6 a1_7 a1_8 a1_9) = some r := by rw [if_neg (show ¬ (false = true) by decide)] at H; exact H
      clear H
      have H := H1
      clear H1
      have H' := Aside0.mk H
      clear H
      go_wp2_with (first | ((with_reducible refine gate_callee (f := 9) rfl ?_); refine goesL_ (some 9) rfl rfl Try.func9 (by kernel_rfl) rfl #[] rfl (by (try simp only [List.map_toArray, List.map_cons, List.map_nil]); first | done | rfl | (simp only [List.length_drop, List.length_take]; rfl)) ?_; (with_reducible refine (chamberlainlaw19_awake.calls k  false _ A6.out).mono ?_); rintro e w9 ⟨rfl, hb⟩; refine ⟨_, rfl, ?_⟩; have n0_ := Aside0.mk (blk_below (g := gb177) (o := .cells #[.int .i64 a1_0, .int .i64 a1_1, .int .i64 a1_2, .int .u32 a1_3, .int .u32 a1_4, .int .u32 a1_5, .int .u32 a1_6, .int .u32 a1_7, .int .u32 a1_8, .int .u32 a1_9] 25 (0, 0)) (by (with_reducible repeat (first | refine blk_drewN ?_ _ | refine blk_drew ?_ | refine blk_alloc ?_ _)); exact BK177.out) hb); have n1_ := Aside0.mk (below_step (by repeat (first | (with_reducible first | exact HB.out | apply below_alloc | apply pw_below_drewN | apply below_drew1 | refine below_set ?_ GE177.out) | exact HB.out)) hb); clear BK177; clear HB; have BK177 := n0_; have HB := n1_; clear n0_ n1_; (try clear hb); (try clear hb2); (try clear hk); (try clear hi)))
      go_meet
      case rel => exact ⟨_, (true), (by first | rfl | (simp; done) | (simp [*]; done)), H', ⟨by first | omega | exact Nat.le_refl _⟩, ⟨by (with_reducible repeat (first | refine blk_drewN ?_ _ | refine blk_drew ?_ | refine blk_alloc ?_ _)); exact BK177.out⟩, ⟨by repeat (first | (with_reducible first | exact HB.out | apply below_alloc | apply pw_below_drewN | apply below_drew1 | refine below_set ?_ GE177.out) | exact HB.out)⟩⟩
  case rest =>
    clear HC4
    try clear p2
    try clear c3
    try clear c7
    try clear c9
    obtain ⟨kq, x15_3, rfl, HA, HJ3, BK177, HB⟩ := hcut
    cases kq with
    | zero => exact absurd HA.out (by simp [chamberlainlaw19_LogSelects.j0])
    | succ kj3 =>
      have H := HA.out
      clear HA
      simp only [chamberlainlaw19_LogSelects.j0] at H
      by_cases c10 : x15_3 = true
      · subst c10
        have H1 : ((chamberlainlaw19_awake.f kj3).bind fun t179 => (some t179)) = some r := by rw [if_pos rfl] at H; exact H
        clear H
        have H := H1
        clear H1
        replace H := Option.bind_eq_some_iff.mp H
        obtain ⟨t179, A110, H⟩ := H
        replace H : (some t179) = some r := H
        have A11 := Aside0.mk A110
        clear A110
        obtain rfl := Option.some.inj H
        go_wp2_with (first | ((with_reducible refine gate_callee (f := 9) rfl ?_); refine goesL_ (some 16) rfl rfl Try.func9 (by kernel_rfl) rfl #[] rfl (by (try simp only [List.map_toArray, List.map_cons, List.map_nil]); first | done | rfl | (simp only [List.length_drop, List.length_take]; rfl)) ?_; (with_reducible refine (chamberlainlaw19_awake.calls kj3  t179 _ A11.out).mono ?_); rintro e w12 ⟨rfl, hb⟩; refine ⟨_, rfl, ?_⟩; have n0_ := Aside0.mk (blk_below (g := gb177) (o := .cells #[.int .i64 a1_0, .int .i64 a1_1, .int .i64 a1_2, .int .u32 a1_3, .int .u32 a1_4, .int .u32 a1_5, .int .u32 a1_6, .int .u32 a1_7, .int .u32 a1_8, .int .u32 a1_9] 25 (0, 0)) (by (with_reducible repeat (first | refine blk_drewN ?_ _ | refine blk_drew ?_ | refine blk_alloc ?_ _)); exact BK177.out) hb); have n1_ := Aside0.mk (below_step (by repeat (first | (with_reducible first | exact HB.out | apply below_alloc | apply pw_below_drewN | apply below_drew1 | refine below_set ?_ GE177.out) | exact HB.out)) hb); clear BK177; clear HB; have BK177 := n0_; have HB := n1_; clear n0_ n1_; (try clear hb); (try clear hb2); (try clear hk); (try clear hi)))
        go_ret
        exact ⟨by first | rfl | (simp [errW_none, errW_some] <;> rfl) | (simp [*, errW_none, errW_some] <;> rfl), by repeat (first | (with_reducible first | exact HB.out | apply below_alloc | apply pw_below_drewN | apply below_drew1 | refine below_set ?_ GE177.out) | exact HB.out)⟩
      · replace c10 := Bool.eq_false_iff.mpr c10
        subst c10
        have H1 : (chamberlainlaw19_LogSelects.l0 kj3 l0 (wrap64 (Int.tmod a2 512)) 0 a1_0 a1_1 a1_2 a1_3 a1_4 a1_5 a1_6 a1_7 a1_8 a1_9) = some r := by rw [if_neg (show ¬ (false = true) by decide)] at H; exact H
        clear H
        have H := H1
        clear H1
        have H' := Aside0.mk H
        clear H
        go_wp2
        go_loopg [8] kj3 (fun kq v8 w' => ∃ (x8_2 : Int), v8 = .int .i64 x8_2 ∧ Aside0 (chamberlainlaw19_LogSelects.l0 kq l0 (wrap64 (Int.tmod a2 512)) x8_2 a1_0 a1_1 a1_2 a1_3 a1_4 a1_5 a1_6 a1_7 a1_8 a1_9 = some r) ∧ Aside0 (kq ≤ kj3) ∧ Aside0 (w'.heap[gb177]? = some (.cells #[.int .i64 a1_0, .int .i64 a1_1, .int .i64 a1_2, .int .u32 a1_3, .int .u32 a1_4, .int .u32 a1_5, .int .u32 a1_6, .int .u32 a1_7, .int .u32 a1_8, .int .u32 a1_9] 25 (0, 0))) ∧ Aside0 (Below w.heap.size w w'))
        case atStart => exact ⟨(0), (by first | rfl | (simp; done) | (simp [*]; done)), H', ⟨Nat.le_refl _⟩, ⟨by (with_reducible repeat (first | refine blk_drewN ?_ _ | refine blk_drew ?_ | refine blk_alloc ?_ _)); exact BK177.out⟩, ⟨by repeat (first | (with_reducible first | exact HB.out | apply below_alloc | apply pw_below_drewN | apply below_drew1 | refine below_set ?_ GE177.out) | exact HB.out)⟩⟩
        case round =>
          clear H'
          try clear c1
          try clear p2
          try clear c3
          try clear p6
          try clear c7
          try clear c9
          try clear c10
          try clear p2
          obtain ⟨x8_2, rfl, HA, HK2, BK177, HB⟩ := hrel
          cases gk with
          | zero => exact absurd HA.out (by simp [chamberlainlaw19_LogSelects.l0])
          | succ k2 =>
            have H := HA.out
            clear HA
            simp only [chamberlainlaw19_LogSelects.l0] at H
            by_cases c13 : x8_2 < (l0.length : Int)
            · rw [if_pos c13] at H
              have c13b0 : decide (x8_2 < (l0.length : Int)) = true := decide_eq_true c13
              clear c13
              by_cases c14 : 0 ≤ x8_2
              · rw [if_pos c14] at H
                have c14b0 : decide (0 ≤ x8_2) = true := decide_eq_true c14
                clear c14
                replace H := Option.bind_eq_some_iff.mp H
                obtain ⟨t188, A150, H⟩ := H
                replace H : ((chamberlainref19_Fits.f ((rd_T25 l0 x8_2).f0) ((rd_T25 l0 x8_2).f1) ((rd_T25 l0 x8_2).f2) ((rd_T25 l0 x8_2).f3) ((rd_T25 l0 x8_2).f4) ((rd_T25 l0 x8_2).f5) ((rd_T25 l0 x8_2).f6) ((rd_T25 l0 x8_2).f7) ((rd_T25 l0 x8_2).f8) ((rd_T25 l0 x8_2).f9) a1_0 a1_1 a1_2 a1_3 a1_4 a1_5 a1_6 a1_7 a1_8 a1_9 (wrap64 (Int.tmod a2 512))).bind fun t190 => (if (t188 != t190) = true then (some false) else ((log_Fits.f a1_0 a1_1 a1_2 a1_3 a1_4 a1_5 a1_6 a1_7 a1_8 a1_9 ((rd_T25 l0 x8_2).f0) ((rd_T25 l0 x8_2).f1) ((rd_T25 l0 x8_2).f2) ((rd_T25 l0 x8_2).f3) ((rd_T25 l0 x8_2).f4) ((rd_T25 l0 x8_2).f5) ((rd_T25 l0 x8_2).f6) ((rd_T25 l0 x8_2).f7) ((rd_T25 l0 x8_2).f8) ((rd_T25 l0 x8_2).f9) (wrap64 (Int.tmod a2 512))).bind fun t192 => ((chamberlainref19_Fits.f ((rd_T25 l0 x8_2).f0) ((rd_T25 l0 x8_2).f1) ((rd_T25 l0 x8_2).f2) ((rd_T25 l0 x8_2).f3) ((rd_T25 l0 x8_2).f4) ((rd_T25 l0 x8_2).f5) ((rd_T25 l0 x8_2).f6) ((rd_T25 l0 x8_2).f7) ((rd_T25 l0 x8_2).f8) ((rd_T25 l0 x8_2).f9) a1_0 a1_1 a1_2 a1_3 a1_4 a1_5 a1_6 a1_7 a1_8 a1_9 (wrap64 (Int.tmod a2 512))).bind fun t194 => (if (t192 != t194) = true then (some false) else (chamberlainlaw19_LogSelects.l0 k2 l0 (wrap64 (Int.tmod a2 512)) (wrap64 (x8_2 + 1)) a1_0 a1_1 a1_2 a1_3 a1_4 a1_5 a1_6 a1_7 a1_8 a1_9)))))) = some r := H
                have A15 := Aside0.mk A150
                clear A150
                replace H := Option.bind_eq_some_iff.mp H
                obtain ⟨t190, A160, H⟩ := H
                replace H : (if (t188 != t190) = true then (some false) else ((log_Fits.f a1_0 a1_1 a1_2 a1_3 a1_4 a1_5 a1_6 a1_7 a1_8 a1_9 ((rd_T25 l0 x8_2).f0) ((rd_T25 l0 x8_2).f1) ((rd_T25 l0 x8_2).f2) ((rd_T25 l0 x8_2).f3) ((rd_T25 l0 x8_2).f4) ((rd_T25 l0 x8_2).f5) ((rd_T25 l0 x8_2).f6) ((rd_T25 l0 x8_2).f7) ((rd_T25 l0 x8_2).f8) ((rd_T25 l0 x8_2).f9) (wrap64 (Int.tmod a2 512))).bind fun t192 => ((chamberlainref19_Fits.f ((rd_T25 l0 x8_2).f0) ((rd_T25 l0 x8_2).f1) ((rd_T25 l0 x8_2).f2) ((rd_T25 l0 x8_2).f3) ((rd_T25 l0 x8_2).f4) ((rd_T25 l0 x8_2).f5) ((rd_T25 l0 x8_2).f6) ((rd_T25 l0 x8_2).f7) ((rd_T25 l0 x8_2).f8) ((rd_T25 l0 x8_2).f9) a1_0 a1_1 a1_2 a1_3 a1_4 a1_5 a1_6 a1_7 a1_8 a1_9 (wrap64 (Int.tmod a2 512))).bind fun t194 => (if (t192 != t194) = true then (some false) else (chamberlainlaw19_LogSelects.l0 k2 l0 (wrap64 (Int.tmod a2 512)) (wrap64 (x8_2 + 1)) a1_0 a1_1 a1_2 a1_3 a1_4 a1_5 a1_6 a1_7 a1_8 a1_9))))) = some r := H
                have A16 := Aside0.mk A160
                clear A160
                by_cases c17 : (t188 != t190) = true
                · rw [if_pos c17] at H
                  have c17b0 : (t188 != t190) = true := c17
                  (try (have c17b1 : decide (t188 = t190) = false := by simpa using c17))
                  (try (have c17b2 : (t188 == t190) = false := by simpa using c17))
                  (try (have c17b3 : ¬ (t188 = t190) := by simpa using c17))
                  clear c17
                  exact absurd (hT.out.symm.trans (Option.some.inj H).symm) (by decide)
                · rw [if_neg c17] at H
                  have c17b0 : (t188 != t190) = false := by simpa using c17
                  (try (have c17b1 : decide (t188 = t190) = true := by simpa using c17))
                  (try (have c17b2 : (t188 == t190) = true := by simpa using c17))
                  clear c17
                  replace H := Option.bind_eq_some_iff.mp H
                  obtain ⟨t192, A210, H⟩ := H
                  replace H : ((chamberlainref19_Fits.f ((rd_T25 l0 x8_2).f0) ((rd_T25 l0 x8_2).f1) ((rd_T25 l0 x8_2).f2) ((rd_T25 l0 x8_2).f3) ((rd_T25 l0 x8_2).f4) ((rd_T25 l0 x8_2).f5) ((rd_T25 l0 x8_2).f6) ((rd_T25 l0 x8_2).f7) ((rd_T25 l0 x8_2).f8) ((rd_T25 l0 x8_2).f9) a1_0 a1_1 a1_2 a1_3 a1_4 a1_5 a1_6 a1_7 a1_8 a1_9 (wrap64 (Int.tmod a2 512))).bind fun t194 => (if (t192 != t194) = true then (some false) else (chamberlainlaw19_LogSelects.l0 k2 l0 (wrap64 (Int.tmod a2 512)) (wrap64 (x8_2 + 1)) a1_0 a1_1 a1_2 a1_3 a1_4 a1_5 a1_6 a1_7 a1_8 a1_9))) = some r := H
                  have A21 := Aside0.mk A210
                  clear A210
                  replace H := Option.bind_eq_some_iff.mp H
                  obtain ⟨t194, A220, H⟩ := H
                  replace H : (if (t192 != t194) = true then (some false) else (chamberlainlaw19_LogSelects.l0 k2 l0 (wrap64 (Int.tmod a2 512)) (wrap64 (x8_2 + 1)) a1_0 a1_1 a1_2 a1_3 a1_4 a1_5 a1_6 a1_7 a1_8 a1_9)) = some r := H
                  have A22 := Aside0.mk A220
                  clear A220
                  by_cases c23 : (t192 != t194) = true
                  · rw [if_pos c23] at H
                    have c23b0 : (t192 != t194) = true := c23
                    (try (have c23b1 : decide (t192 = t194) = false := by simpa using c23))
                    (try (have c23b2 : (t192 == t194) = false := by simpa using c23))
                    (try (have c23b3 : ¬ (t192 = t194) := by simpa using c23))
                    clear c23
                    exact absurd (hT.out.symm.trans (Option.some.inj H).symm) (by decide)
                  · rw [if_neg c23] at H
                    have c23b0 : (t192 != t194) = false := by simpa using c23
                    (try (have c23b1 : decide (t192 = t194) = true := by simpa using c23))
                    (try (have c23b2 : (t192 == t194) = true := by simpa using c23))
                    clear c23
                    have H' := Aside0.mk H
                    clear H
                    try go_wp2
                    have n0_ := Aside0.mk (blk_drew BK177.out)
                    have n1_ := Aside0.mk (below_drew1 HB.out)
                    clear BK177
                    clear HB
                    have BK177 := n0_
                    have HB := n1_
                    clear n0_ n1_
                    have p187 : 0 ≤ (x8_2 : Int) := of_decide_eq_true (by first | (with_reducible assumption) | assumption)
                    have q187 : x8_2 < (l0.length : Int) := of_decide_eq_true (by first | (with_reducible assumption) | assumption)
                    obtain ⟨ad187, e187, hx187_0, hx187_1, hx187_2, hx187_3, hx187_4, hx187_5, hx187_6, hx187_7, hx187_8, hx187_9⟩ := at_T25 HR0.out x8_2 p187 q187
                    have hw187_9 := hx187_9
                    have hw187_8 := hx187_8
                    have hw187_7 := hx187_7
                    have hw187_6 := hx187_6
                    have hw187_5 := hx187_5
                    have hw187_4 := hx187_4
                    have hw187_3 := hx187_3
                    have hw187_2 := hx187_2
                    have hw187_1 := hx187_1
                    have hw187_0 := hx187_0
                    cases e187
                    replace hx187_0 := (HB.out.cell (World.block_lt_of_cell? w _ hx187_0)).trans hx187_0
                    replace hx187_1 := (HB.out.cell (World.block_lt_of_cell? w _ hx187_1)).trans hx187_1
                    replace hx187_2 := (HB.out.cell (World.block_lt_of_cell? w _ hx187_2)).trans hx187_2
                    replace hx187_3 := (HB.out.cell (World.block_lt_of_cell? w _ hx187_3)).trans hx187_3
                    replace hx187_4 := (HB.out.cell (World.block_lt_of_cell? w _ hx187_4)).trans hx187_4
                    replace hx187_5 := (HB.out.cell (World.block_lt_of_cell? w _ hx187_5)).trans hx187_5
                    replace hx187_6 := (HB.out.cell (World.block_lt_of_cell? w _ hx187_6)).trans hx187_6
                    replace hx187_7 := (HB.out.cell (World.block_lt_of_cell? w _ hx187_7)).trans hx187_7
                    replace hx187_8 := (HB.out.cell (World.block_lt_of_cell? w _ hx187_8)).trans hx187_8
                    replace hx187_9 := (HB.out.cell (World.block_lt_of_cell? w _ hx187_9)).trans hx187_9
                    replace p187 := eq_true p187
                    replace q187 := eq_true q187
                    have p189 : 0 ≤ (x8_2 : Int) := of_decide_eq_true (by first | (with_reducible assumption) | assumption)
                    have q189 : x8_2 < (l0.length : Int) := of_decide_eq_true (by first | (with_reducible assumption) | assumption)
                    obtain ⟨ad189, e189, hx189_0, hx189_1, hx189_2, hx189_3, hx189_4, hx189_5, hx189_6, hx189_7, hx189_8, hx189_9⟩ := at_T25 HR0.out x8_2 p189 q189
                    have hw189_9 := hx189_9
                    have hw189_8 := hx189_8
                    have hw189_7 := hx189_7
                    have hw189_6 := hx189_6
                    have hw189_5 := hx189_5
                    have hw189_4 := hx189_4
                    have hw189_3 := hx189_3
                    have hw189_2 := hx189_2
                    have hw189_1 := hx189_1
                    have hw189_0 := hx189_0
                    obtain rfl : ad187 = ad189 := (by injection e189)
                    replace hx189_0 := (HB.out.cell (World.block_lt_of_cell? w _ hx189_0)).trans hx189_0
                    replace hx189_1 := (HB.out.cell (World.block_lt_of_cell? w _ hx189_1)).trans hx189_1
                    replace hx189_2 := (HB.out.cell (World.block_lt_of_cell? w _ hx189_2)).trans hx189_2
                    replace hx189_3 := (HB.out.cell (World.block_lt_of_cell? w _ hx189_3)).trans hx189_3
                    replace hx189_4 := (HB.out.cell (World.block_lt_of_cell? w _ hx189_4)).trans hx189_4
                    replace hx189_5 := (HB.out.cell (World.block_lt_of_cell? w _ hx189_5)).trans hx189_5
                    replace hx189_6 := (HB.out.cell (World.block_lt_of_cell? w _ hx189_6)).trans hx189_6
                    replace hx189_7 := (HB.out.cell (World.block_lt_of_cell? w _ hx189_7)).trans hx189_7
                    replace hx189_8 := (HB.out.cell (World.block_lt_of_cell? w _ hx189_8)).trans hx189_8
                    replace hx189_9 := (HB.out.cell (World.block_lt_of_cell? w _ hx189_9)).trans hx189_9
                    replace p189 := eq_true p189
                    replace q189 := eq_true q189
                    have p191 : 0 ≤ (x8_2 : Int) := of_decide_eq_true (by first | (with_reducible assumption) | assumption)
                    have q191 : x8_2 < (l0.length : Int) := of_decide_eq_true (by first | (with_reducible assumption) | assumption)
                    obtain ⟨ad191, e191, hx191_0, hx191_1, hx191_2, hx191_3, hx191_4, hx191_5, hx191_6, hx191_7, hx191_8, hx191_9⟩ := at_T25 HR0.out x8_2 p191 q191
                    have hw191_9 := hx191_9
                    have hw191_8 := hx191_8
                    have hw191_7 := hx191_7
                    have hw191_6 := hx191_6
                    have hw191_5 := hx191_5
                    have hw191_4 := hx191_4
                    have hw191_3 := hx191_3
                    have hw191_2 := hx191_2
                    have hw191_1 := hx191_1
                    have hw191_0 := hx191_0
                    obtain rfl : ad187 = ad191 := (by injection e191)
                    replace hx191_0 := (HB.out.cell (World.block_lt_of_cell? w _ hx191_0)).trans hx191_0
                    replace hx191_1 := (HB.out.cell (World.block_lt_of_cell? w _ hx191_1)).trans hx191_1
                    replace hx191_2 := (HB.out.cell (World.block_lt_of_cell? w _ hx191_2)).trans hx191_2
                    replace hx191_3 := (HB.out.cell (World.block_lt_of_cell? w _ hx191_3)).trans hx191_3
                    replace hx191_4 := (HB.out.cell (World.block_lt_of_cell? w _ hx191_4)).trans hx191_4
                    replace hx191_5 := (HB.out.cell (World.block_lt_of_cell? w _ hx191_5)).trans hx191_5
                    replace hx191_6 := (HB.out.cell (World.block_lt_of_cell? w _ hx191_6)).trans hx191_6
                    replace hx191_7 := (HB.out.cell (World.block_lt_of_cell? w _ hx191_7)).trans hx191_7
                    replace hx191_8 := (HB.out.cell (World.block_lt_of_cell? w _ hx191_8)).trans hx191_8
                    replace hx191_9 := (HB.out.cell (World.block_lt_of_cell? w _ hx191_9)).trans hx191_9
                    replace p191 := eq_true p191
                    replace q191 := eq_true q191
                    have p193 : 0 ≤ (x8_2 : Int) := of_decide_eq_true (by first | (with_reducible assumption) | assumption)
                    have q193 : x8_2 < (l0.length : Int) := of_decide_eq_true (by first | (with_reducible assumption) | assumption)
                    obtain ⟨ad193, e193, hx193_0, hx193_1, hx193_2, hx193_3, hx193_4, hx193_5, hx193_6, hx193_7, hx193_8, hx193_9⟩ := at_T25 HR0.out x8_2 p193 q193
                    have hw193_9 := hx193_9
                    have hw193_8 := hx193_8
                    have hw193_7 := hx193_7
                    have hw193_6 := hx193_6
                    have hw193_5 := hx193_5
                    have hw193_4 := hx193_4
                    have hw193_3 := hx193_3
                    have hw193_2 := hx193_2
                    have hw193_1 := hx193_1
                    have hw193_0 := hx193_0
                    obtain rfl : ad187 = ad193 := (by injection e193)
                    replace hx193_0 := (HB.out.cell (World.block_lt_of_cell? w _ hx193_0)).trans hx193_0
                    replace hx193_1 := (HB.out.cell (World.block_lt_of_cell? w _ hx193_1)).trans hx193_1
                    replace hx193_2 := (HB.out.cell (World.block_lt_of_cell? w _ hx193_2)).trans hx193_2
                    replace hx193_3 := (HB.out.cell (World.block_lt_of_cell? w _ hx193_3)).trans hx193_3
                    replace hx193_4 := (HB.out.cell (World.block_lt_of_cell? w _ hx193_4)).trans hx193_4
                    replace hx193_5 := (HB.out.cell (World.block_lt_of_cell? w _ hx193_5)).trans hx193_5
                    replace hx193_6 := (HB.out.cell (World.block_lt_of_cell? w _ hx193_6)).trans hx193_6
                    replace hx193_7 := (HB.out.cell (World.block_lt_of_cell? w _ hx193_7)).trans hx193_7
                    replace hx193_8 := (HB.out.cell (World.block_lt_of_cell? w _ hx193_8)).trans hx193_8
                    replace hx193_9 := (HB.out.cell (World.block_lt_of_cell? w _ hx193_9)).trans hx193_9
                    replace p193 := eq_true p193
                    replace q193 := eq_true q193
                    refine start_ (n := 32) (S := fun w' => w'.cell? ⟨gb177, 0, none⟩ = some (.int .i64 a1_0) ∧ w'.cell? ⟨gb177, 1, none⟩ = some (.int .i64 a1_1) ∧ w'.cell? ⟨gb177, 2, none⟩ = some (.int .i64 a1_2) ∧ w'.cell? ⟨gb177, 3, none⟩ = some (.int .u32 a1_3) ∧ w'.cell? ⟨gb177, 4, none⟩ = some (.int .u32 a1_4) ∧ w'.cell? ⟨gb177, 5, none⟩ = some (.int .u32 a1_5) ∧ w'.cell? ⟨gb177, 6, none⟩ = some (.int .u32 a1_6) ∧ w'.cell? ⟨gb177, 7, none⟩ = some (.int .u32 a1_7) ∧ w'.cell? ⟨gb177, 8, none⟩ = some (.int .u32 a1_8) ∧ w'.cell? ⟨gb177, 9, none⟩ = some (.int .u32 a1_9) ∧ w'.cell? (ad187.add ((x8_2).toNat * 10)) = some (.int .i64 ((rd_T25 l0 x8_2).f0)) ∧ w'.cell? ⟨(ad187.add ((x8_2).toNat * 10)).block, (ad187.add ((x8_2).toNat * 10)).off + 1, none⟩ = some (.int .i64 ((rd_T25 l0 x8_2).f1)) ∧ w'.cell? ⟨(ad187.add ((x8_2).toNat * 10)).block, (ad187.add ((x8_2).toNat * 10)).off + 2, none⟩ = some (.int .i64 ((rd_T25 l0 x8_2).f2)) ∧ w'.cell? ⟨(ad187.add ((x8_2).toNat * 10)).block, (ad187.add ((x8_2).toNat * 10)).off + 3, none⟩ = some (.int .u32 ((rd_T25 l0 x8_2).f3)) ∧ w'.cell? ⟨(ad187.add ((x8_2).toNat * 10)).block, (ad187.add ((x8_2).toNat * 10)).off + 4, none⟩ = some (.int .u32 ((rd_T25 l0 x8_2).f4)) ∧ w'.cell? ⟨(ad187.add ((x8_2).toNat * 10)).block, (ad187.add ((x8_2).toNat * 10)).off + 5, none⟩ = some (.int .u32 ((rd_T25 l0 x8_2).f5)) ∧ w'.cell? ⟨(ad187.add ((x8_2).toNat * 10)).block, (ad187.add ((x8_2).toNat * 10)).off + 6, none⟩ = some (.int .u32 ((rd_T25 l0 x8_2).f6)) ∧ w'.cell? ⟨(ad187.add ((x8_2).toNat * 10)).block, (ad187.add ((x8_2).toNat * 10)).off + 7, none⟩ = some (.int .u32 ((rd_T25 l0 x8_2).f7)) ∧ w'.cell? ⟨(ad187.add ((x8_2).toNat * 10)).block, (ad187.add ((x8_2).toNat * 10)).off + 8, none⟩ = some (.int .u32 ((rd_T25 l0 x8_2).f8)) ∧ w'.cell? ⟨(ad187.add ((x8_2).toNat * 10)).block, (ad187.add ((x8_2).toNat * 10)).off + 9, none⟩ = some (.int .u32 ((rd_T25 l0 x8_2).f9)) ∧ w'.cell? (ad187.add ((x8_2).toNat * 10)) = some (.int .i64 ((rd_T25 l0 x8_2).f0)) ∧ w'.cell? ⟨(ad187.add ((x8_2).toNat * 10)).block, (ad187.add ((x8_2).toNat * 10)).off + 1, none⟩ = some (.int .i64 ((rd_T25 l0 x8_2).f1)) ∧ w'.cell? ⟨(ad187.add ((x8_2).toNat * 10)).block, (ad187.add ((x8_2).toNat * 10)).off + 2, none⟩ = some (.int .i64 ((rd_T25 l0 x8_2).f2)) ∧ w'.cell? ⟨(ad187.add ((x8_2).toNat * 10)).block, (ad187.add ((x8_2).toNat * 10)).off + 3, none⟩ = some (.int .u32 ((rd_T25 l0 x8_2).f3)) ∧ w'.cell? ⟨(ad187.add ((x8_2).toNat * 10)).block, (ad187.add ((x8_2).toNat * 10)).off + 4, none⟩ = some (.int .u32 ((rd_T25 l0 x8_2).f4)) ∧ w'.cell? ⟨(ad187.add ((x8_2).toNat * 10)).block, (ad187.add ((x8_2).toNat * 10)).off + 5, none⟩ = some (.int .u32 ((rd_T25 l0 x8_2).f5)) ∧ w'.cell? ⟨(ad187.add ((x8_2).toNat * 10)).block, (ad187.add ((x8_2).toNat * 10)).off + 6, none⟩ = some (.int .u32 ((rd_T25 l0 x8_2).f6)) ∧ w'.cell? ⟨(ad187.add ((x8_2).toNat * 10)).block, (ad187.add ((x8_2).toNat * 10)).off + 7, none⟩ = some (.int .u32 ((rd_T25 l0 x8_2).f7)) ∧ w'.cell? ⟨(ad187.add ((x8_2).toNat * 10)).block, (ad187.add ((x8_2).toNat * 10)).off + 8, none⟩ = some (.int .u32 ((rd_T25 l0 x8_2).f8)) ∧ w'.cell? ⟨(ad187.add ((x8_2).toNat * 10)).block, (ad187.add ((x8_2).toNat * 10)).off + 9, none⟩ = some (.int .u32 ((rd_T25 l0 x8_2).f9)) ∧ w'.cell? (ad187.add ((x8_2).toNat * 10)) = some (.int .i64 ((rd_T25 l0 x8_2).f0)) ∧ w'.cell? ⟨(ad187.add ((x8_2).toNat * 10)).block, (ad187.add ((x8_2).toNat * 10)).off + 1, none⟩ = some (.int .i64 ((rd_T25 l0 x8_2).f1)) ∧ w'.cell? ⟨(ad187.add ((x8_2).toNat * 10)).block, (ad187.add ((x8_2).toNat * 10)).off + 2, none⟩ = some (.int .i64 ((rd_T25 l0 x8_2).f2)) ∧ w'.cell? ⟨(ad187.add ((x8_2).toNat * 10)).block, (ad187.add ((x8_2).toNat * 10)).off + 3, none⟩ = some (.int .u32 ((rd_T25 l0 x8_2).f3)) ∧ w'.cell? ⟨(ad187.add ((x8_2).toNat * 10)).block, (ad187.add ((x8_2).toNat * 10)).off + 4, none⟩ = some (.int .u32 ((rd_T25 l0 x8_2).f4)) ∧ w'.cell? ⟨(ad187.add ((x8_2).toNat * 10)).block, (ad187.add ((x8_2).toNat * 10)).off + 5, none⟩ = some (.int .u32 ((rd_T25 l0 x8_2).f5)) ∧ w'.cell? ⟨(ad187.add ((x8_2).toNat * 10)).block, (ad187.add ((x8_2).toNat * 10)).off + 6, none⟩ = some (.int .u32 ((rd_T25 l0 x8_2).f6)) ∧ w'.cell? ⟨(ad187.add ((x8_2).toNat * 10)).block, (ad187.add ((x8_2).toNat * 10)).off + 7, none⟩ = some (.int .u32 ((rd_T25 l0 x8_2).f7)) ∧ w'.cell? ⟨(ad187.add ((x8_2).toNat * 10)).block, (ad187.add ((x8_2).toNat * 10)).off + 8, none⟩ = some (.int .u32 ((rd_T25 l0 x8_2).f8)) ∧ w'.cell? ⟨(ad187.add ((x8_2).toNat * 10)).block, (ad187.add ((x8_2).toNat * 10)).off + 9, none⟩ = some (.int .u32 ((rd_T25 l0 x8_2).f9)) ∧ w'.cell? (ad187.add ((x8_2).toNat * 10)) = some (.int .i64 ((rd_T25 l0 x8_2).f0)) ∧ w'.cell? ⟨(ad187.add ((x8_2).toNat * 10)).block, (ad187.add ((x8_2).toNat * 10)).off + 1, none⟩ = some (.int .i64 ((rd_T25 l0 x8_2).f1)) ∧ w'.cell? ⟨(ad187.add ((x8_2).toNat * 10)).block, (ad187.add ((x8_2).toNat * 10)).off + 2, none⟩ = some (.int .i64 ((rd_T25 l0 x8_2).f2)) ∧ w'.cell? ⟨(ad187.add ((x8_2).toNat * 10)).block, (ad187.add ((x8_2).toNat * 10)).off + 3, none⟩ = some (.int .u32 ((rd_T25 l0 x8_2).f3)) ∧ w'.cell? ⟨(ad187.add ((x8_2).toNat * 10)).block, (ad187.add ((x8_2).toNat * 10)).off + 4, none⟩ = some (.int .u32 ((rd_T25 l0 x8_2).f4)) ∧ w'.cell? ⟨(ad187.add ((x8_2).toNat * 10)).block, (ad187.add ((x8_2).toNat * 10)).off + 5, none⟩ = some (.int .u32 ((rd_T25 l0 x8_2).f5)) ∧ w'.cell? ⟨(ad187.add ((x8_2).toNat * 10)).block, (ad187.add ((x8_2).toNat * 10)).off + 6, none⟩ = some (.int .u32 ((rd_T25 l0 x8_2).f6)) ∧ w'.cell? ⟨(ad187.add ((x8_2).toNat * 10)).block, (ad187.add ((x8_2).toNat * 10)).off + 7, none⟩ = some (.int .u32 ((rd_T25 l0 x8_2).f7)) ∧ w'.cell? ⟨(ad187.add ((x8_2).toNat * 10)).block, (ad187.add ((x8_2).toNat * 10)).off + 8, none⟩ = some (.int .u32 ((rd_T25 l0 x8_2).f8)) ∧ w'.cell? ⟨(ad187.add ((x8_2).toNat * 10)).block, (ad187.add ((x8_2).toNat * 10)).off + 9, none⟩ = some (.int .u32 ((rd_T25 l0 x8_2).f9))) (ds := []) #[false, false, false, false, false, false, false, false, false, false, false, false, false, false, false, false, false, false, false, false, false, false, false, false, false, false, false, false, false, false, false, false] (by kernel_rfl) rfl rfl ⟨(blk_cell BK177.out 0).trans rfl, (blk_cell BK177.out 1).trans rfl, (blk_cell BK177.out 2).trans rfl, (blk_cell BK177.out 3).trans rfl, (blk_cell BK177.out 4).trans rfl, (blk_cell BK177.out 5).trans rfl, (blk_cell BK177.out 6).trans rfl, (blk_cell BK177.out 7).trans rfl, (blk_cell BK177.out 8).trans rfl, (blk_cell BK177.out 9).trans rfl, ((HB.out.cell (World.block_lt_of_cell? w _ hw187_0)).trans hw187_0), ((HB.out.cell (World.block_lt_of_cell? w _ hw187_1)).trans hw187_1), ((HB.out.cell (World.block_lt_of_cell? w _ hw187_2)).trans hw187_2), ((HB.out.cell (World.block_lt_of_cell? w _ hw187_3)).trans hw187_3), ((HB.out.cell (World.block_lt_of_cell? w _ hw187_4)).trans hw187_4), ((HB.out.cell (World.block_lt_of_cell? w _ hw187_5)).trans hw187_5), ((HB.out.cell (World.block_lt_of_cell? w _ hw187_6)).trans hw187_6), ((HB.out.cell (World.block_lt_of_cell? w _ hw187_7)).trans hw187_7), ((HB.out.cell (World.block_lt_of_cell? w _ hw187_8)).trans hw187_8), ((HB.out.cell (World.block_lt_of_cell? w _ hw187_9)).trans hw187_9), ((HB.out.cell (World.block_lt_of_cell? w _ hw189_0)).trans hw189_0), ((HB.out.cell (World.block_lt_of_cell? w _ hw189_1)).trans hw189_1), ((HB.out.cell (World.block_lt_of_cell? w _ hw189_2)).trans hw189_2), ((HB.out.cell (World.block_lt_of_cell? w _ hw189_3)).trans hw189_3), ((HB.out.cell (World.block_lt_of_cell? w _ hw189_4)).trans hw189_4), ((HB.out.cell (World.block_lt_of_cell? w _ hw189_5)).trans hw189_5), ((HB.out.cell (World.block_lt_of_cell? w _ hw189_6)).trans hw189_6), ((HB.out.cell (World.block_lt_of_cell? w _ hw189_7)).trans hw189_7), ((HB.out.cell (World.block_lt_of_cell? w _ hw189_8)).trans hw189_8), ((HB.out.cell (World.block_lt_of_cell? w _ hw189_9)).trans hw189_9), ((HB.out.cell (World.block_lt_of_cell? w _ hw191_0)).trans hw191_0), ((HB.out.cell (World.block_lt_of_cell? w _ hw191_1)).trans hw191_1), ((HB.out.cell (World.block_lt_of_cell? w _ hw191_2)).trans hw191_2), ((HB.out.cell (World.block_lt_of_cell? w _ hw191_3)).trans hw191_3), ((HB.out.cell (World.block_lt_of_cell? w _ hw191_4)).trans hw191_4), ((HB.out.cell (World.block_lt_of_cell? w _ hw191_5)).trans hw191_5), ((HB.out.cell (World.block_lt_of_cell? w _ hw191_6)).trans hw191_6), ((HB.out.cell (World.block_lt_of_cell? w _ hw191_7)).trans hw191_7), ((HB.out.cell (World.block_lt_of_cell? w _ hw191_8)).trans hw191_8), ((HB.out.cell (World.block_lt_of_cell? w _ hw191_9)).trans hw191_9), ((HB.out.cell (World.block_lt_of_cell? w _ hw193_0)).trans hw193_0), ((HB.out.cell (World.block_lt_of_cell? w _ hw193_1)).trans hw193_1), ((HB.out.cell (World.block_lt_of_cell? w _ hw193_2)).trans hw193_2), ((HB.out.cell (World.block_lt_of_cell? w _ hw193_3)).trans hw193_3), ((HB.out.cell (World.block_lt_of_cell? w _ hw193_4)).trans hw193_4), ((HB.out.cell (World.block_lt_of_cell? w _ hw193_5)).trans hw193_5), ((HB.out.cell (World.block_lt_of_cell? w _ hw193_6)).trans hw193_6), ((HB.out.cell (World.block_lt_of_cell? w _ hw193_7)).trans hw193_7), ((HB.out.cell (World.block_lt_of_cell? w _ hw193_8)).trans hw193_8), ((HB.out.cell (World.block_lt_of_cell? w _ hw193_9)).trans hw193_9)⟩ (fun hHeld => ?_); refine with_tabW chamberlainlaw19_LogSelects.tab7 chamberlainlaw19_LogSelects.bits7 (fun HT_ HW_ => ?_)
                    generalize wr.drew = w29 at BK177 HB hx187_0 hx187_1 hx187_2 hx187_3 hx187_4 hx187_5 hx187_6 hx187_7 hx187_8 hx187_9 hx189_0 hx189_1 hx189_2 hx189_3 hx189_4 hx189_5 hx189_6 hx189_7 hx189_8 hx189_9 hx191_0 hx191_1 hx191_2 hx191_3 hx191_4 hx191_5 hx191_6 hx191_7 hx191_8 hx191_9 hx193_0 hx193_1 hx193_2 hx193_3 hx193_4 hx193_5 hx193_6 hx193_7 hx193_8 hx193_9 hHeld ⊢
                    refine pure_ (i := 0) (N := some 26) (v := ?_) (a' := ?_) #[true, false, false, false, false, false, false, false, false, false, false, false, false, false, false, false, false, false, false, false, false, false, false, false, false, false, false, false, false, false, false, false] rfl rfl (any_of HT_.out (by kernel_rfl)) (fun _ _ _ h => h) (Or.inl ⟨by rfl, ?_⟩) ?_ ?_
                    rotate_left
                    · intro w'
                      go_simp
                      with_reducible rfl
                    rotate_left
                    · simp only [Act.put, List.setIfInBounds_toArray, List.set_cons_zero, List.set_cons_succ, i64_w, i32_w]
                      rfl
                    refine pure_ (i := 1) (N := some 27) (v := ?_) (a' := ?_) #[true, true, false, false, false, false, false, false, false, false, false, false, false, false, false, false, false, false, false, false, false, false, false, false, false, false, false, false, false, false, false, false] rfl rfl (any_of HT_.out (by kernel_rfl)) (fun _ _ _ h => h) (Or.inl ⟨by rfl, ?_⟩) ?_ ?_
                    rotate_left
                    · intro w'
                      go_simp
                      with_reducible rfl
                    rotate_left
                    · simp only [Act.put, List.setIfInBounds_toArray, List.set_cons_zero, List.set_cons_succ, i64_w, i32_w]
                      rfl
                    refine pure_ (i := 2) (N := some 28) (v := ?_) (a' := ?_) #[true, true, true, false, false, false, false, false, false, false, false, false, false, false, false, false, false, false, false, false, false, false, false, false, false, false, false, false, false, false, false, false] rfl rfl (any_of HT_.out (by kernel_rfl)) (fun _ _ _ h => h) (Or.inl ⟨by rfl, ?_⟩) ?_ ?_
                    rotate_left
                    · intro w'
                      go_simp
                      with_reducible rfl
                    rotate_left
                    · simp only [Act.put, List.setIfInBounds_toArray, List.set_cons_zero, List.set_cons_succ, i64_w, i32_w]
                      rfl
                    refine pure_ (i := 5) (N := some 31) (v := ?_) (a' := ?_) #[true, true, true, false, false, true, false, false, false, false, false, false, false, false, false, false, false, false, false, false, false, false, false, false, false, false, false, false, false, false, false, false] rfl rfl (any_of HT_.out (by kernel_rfl)) (fun _ _ _ h => h) (Or.inl ⟨by rfl, ?_⟩) ?_ ?_
                    rotate_left
                    · intro w'
                      go_simp
                      with_reducible rfl
                    rotate_left
                    · simp only [Act.put, List.setIfInBounds_toArray, List.set_cons_zero, List.set_cons_succ, i64_w, i32_w]
                      rfl
                    refine pure_ (i := 7) (N := some 33) (v := ?_) (a' := ?_) #[true, true, true, false, false, true, false, true, false, false, false, false, false, false, false, false, false, false, false, false, false, false, false, false, false, false, false, false, false, false, false, false] rfl rfl (any_of HT_.out (by kernel_rfl)) (fun _ _ _ h => h) (Or.inl ⟨by rfl, ?_⟩) ?_ ?_
                    rotate_left
                    · intro w'
                      go_simp
                      with_reducible rfl
                    rotate_left
                    · simp only [Act.put, List.setIfInBounds_toArray, List.set_cons_zero, List.set_cons_succ, i64_w, i32_w]
                      rfl
                    refine pure_ (i := 8) (N := some 34) (v := ?_) (a' := ?_) #[true, true, true, false, false, true, false, true, true, false, false, false, false, false, false, false, false, false, false, false, false, false, false, false, false, false, false, false, false, false, false, false] rfl rfl (any_of HT_.out (by kernel_rfl)) (fun _ _ _ h => h) (Or.inl ⟨by rfl, ?_⟩) ?_ ?_
                    rotate_left
                    · intro w'
                      go_simp
                      with_reducible rfl
                    rotate_left
                    · simp only [Act.put, List.setIfInBounds_toArray, List.set_cons_zero, List.set_cons_succ, i64_w, i32_w]
                      rfl
                    refine pure_ (i := 9) (N := some 35) (v := ?_) (a' := ?_) #[true, true, true, false, false, true, false, true, true, true, false, false, false, false, false, false, false, false, false, false, false, false, false, false, false, false, false, false, false, false, false, false] rfl rfl (any_of HT_.out (by kernel_rfl)) (fun _ _ _ h => h) (Or.inl ⟨by rfl, ?_⟩) ?_ ?_
                    rotate_left
                    · intro w'
                      go_simp
                      with_reducible rfl
                    rotate_left
                    · simp only [Act.put, List.setIfInBounds_toArray, List.set_cons_zero, List.set_cons_succ, i64_w, i32_w]
                      rfl
                    refine pure_ (i := 12) (N := some 38) (v := ?_) (a' := ?_) #[true, true, true, false, false, true, false, true, true, true, false, false, true, false, false, false, false, false, false, false, false, false, false, false, false, false, false, false, false, false, false, false] rfl rfl (any_of HT_.out (by kernel_rfl)) (fun _ _ _ h => h) (Or.inl ⟨by rfl, ?_⟩) ?_ ?_
                    rotate_left
                    · intro w'
                      go_simp
                      with_reducible rfl
                    rotate_left
                    · simp only [Act.put, List.setIfInBounds_toArray, List.set_cons_zero, List.set_cons_succ, i64_w, i32_w]
                      rfl
                    refine take_ (i := 3) (N := some 29) (v := ?_) (a' := ?_) #[true, true, true, true, false, true, false, true, true, true, false, false, true, false, false, false, false, false, false, false, false, false, false, false, false, false, false, false, false, false, false, false] rfl rfl (take_ofW HT_.out HW_.out (by kernel_rfl)) (fun _ _ _ h => h) (Or.inl ⟨by rfl, ?_⟩) hHeld ?_ ?_
                    rotate_left
                    · rintro w' ⟨s0, s1, s2, s3, s4, s5, s6, s7, s8, s9, s10, s11, s12, s13, s14, s15, s16, s17, s18, s19, s20, s21, s22, s23, s24, s25, s26, s27, s28, s29, s30, s31, s32, s33, s34, s35, s36, s37, s38, s39, s40, s41, s42, s43, s44, s45, s46, s47, s48, s49⟩
                      go_simp
                      with_reducible rfl
                    rotate_left
                    · simp only [Act.put, List.setIfInBounds_toArray, List.set_cons_zero, List.set_cons_succ, i64_w, i32_w]
                      rfl
                    refine take_ (i := 4) (N := some 30) (v := ?_) (a' := ?_) #[true, true, true, true, true, true, false, true, true, true, false, false, true, false, false, false, false, false, false, false, false, false, false, false, false, false, false, false, false, false, false, false] rfl rfl (take_ofW HT_.out HW_.out (by kernel_rfl)) (fun _ _ _ h => h) (Or.inl ⟨by rfl, ?_⟩) hHeld ?_ ?_
                    rotate_left
                    · rintro w' ⟨s0, s1, s2, s3, s4, s5, s6, s7, s8, s9, s10, s11, s12, s13, s14, s15, s16, s17, s18, s19, s20, s21, s22, s23, s24, s25, s26, s27, s28, s29, s30, s31, s32, s33, s34, s35, s36, s37, s38, s39, s40, s41, s42, s43, s44, s45, s46, s47, s48, s49⟩
                      go_simp
                      with_reducible rfl
                    rotate_left
                    · simp only [Act.put, List.setIfInBounds_toArray, List.set_cons_zero, List.set_cons_succ, i64_w, i32_w]
                      rfl
                    refine take_ (i := 10) (N := some 36) (v := ?_) (a' := ?_) #[true, true, true, true, true, true, false, true, true, true, true, false, true, false, false, false, false, false, false, false, false, false, false, false, false, false, false, false, false, false, false, false] rfl rfl (take_ofW HT_.out HW_.out (by kernel_rfl)) (fun _ _ _ h => h) (Or.inl ⟨by rfl, ?_⟩) hHeld ?_ ?_
                    rotate_left
                    · rintro w' ⟨s0, s1, s2, s3, s4, s5, s6, s7, s8, s9, s10, s11, s12, s13, s14, s15, s16, s17, s18, s19, s20, s21, s22, s23, s24, s25, s26, s27, s28, s29, s30, s31, s32, s33, s34, s35, s36, s37, s38, s39, s40, s41, s42, s43, s44, s45, s46, s47, s48, s49⟩
                      go_simp
                      with_reducible rfl
                    rotate_left
                    · simp only [Act.put, List.setIfInBounds_toArray, List.set_cons_zero, List.set_cons_succ, i64_w, i32_w]
                      rfl
                    refine take_ (i := 11) (N := some 37) (v := ?_) (a' := ?_) #[true, true, true, true, true, true, false, true, true, true, true, true, true, false, false, false, false, false, false, false, false, false, false, false, false, false, false, false, false, false, false, false] rfl rfl (take_ofW HT_.out HW_.out (by kernel_rfl)) (fun _ _ _ h => h) (Or.inl ⟨by rfl, ?_⟩) hHeld ?_ ?_
                    rotate_left
                    · rintro w' ⟨s0, s1, s2, s3, s4, s5, s6, s7, s8, s9, s10, s11, s12, s13, s14, s15, s16, s17, s18, s19, s20, s21, s22, s23, s24, s25, s26, s27, s28, s29, s30, s31, s32, s33, s34, s35, s36, s37, s38, s39, s40, s41, s42, s43, s44, s45, s46, s47, s48, s49⟩
                      go_simp
                      with_reducible rfl
                    rotate_left
                    · simp only [Act.put, List.setIfInBounds_toArray, List.set_cons_zero, List.set_cons_succ, i64_w, i32_w]
                      rfl
                    refine one_ (i := 6) (N := some 32) #[true, true, true, true, true, true, true, true, true, true, true, true, true, false, false, false, false, false, false, false, false, false, false, false, false, false, false, false, false, false, false, false] rfl rfl (one_of HT_.out (by kernel_rfl)) (by decide) (fun K hK => ?_)
                    refine goes_ Try.func10 (by kernel_rfl) rfl #[.agg #[.int .i64 ((rd_T25 l0 x8_2).f0), .int .i64 ((rd_T25 l0 x8_2).f1), .int .i64 ((rd_T25 l0 x8_2).f2), .int .u32 ((rd_T25 l0 x8_2).f3), .int .u32 ((rd_T25 l0 x8_2).f4), .int .u32 ((rd_T25 l0 x8_2).f5), .int .u32 ((rd_T25 l0 x8_2).f6), .int .u32 ((rd_T25 l0 x8_2).f7), .int .u32 ((rd_T25 l0 x8_2).f8), .int .u32 ((rd_T25 l0 x8_2).f9)], .agg #[.int .i64 a1_0, .int .i64 a1_1, .int .i64 a1_2, .int .u32 a1_3, .int .u32 a1_4, .int .u32 a1_5, .int .u32 a1_6, .int .u32 a1_7, .int .u32 a1_8, .int .u32 a1_9], .int .i64 (wrap64 (Int.tmod a2 512))] (by rfl) rfl rfl (by (try simp only [List.map_toArray, List.map_cons, List.map_nil]); first | done | rfl | (simp only [List.length_drop, List.length_take]; rfl)) ?_
                    with_reducible refine (log_Fits.calls ((rd_T25 l0 x8_2).f0) ((rd_T25 l0 x8_2).f1) ((rd_T25 l0 x8_2).f2) ((rd_T25 l0 x8_2).f3) ((rd_T25 l0 x8_2).f4) ((rd_T25 l0 x8_2).f5) ((rd_T25 l0 x8_2).f6) ((rd_T25 l0 x8_2).f7) ((rd_T25 l0 x8_2).f8) ((rd_T25 l0 x8_2).f9) a1_0 a1_1 a1_2 a1_3 a1_4 a1_5 a1_6 a1_7 a1_8 a1_9 (wrap64 (Int.tmod a2 512)) t188 _ A15.out).mono ?_
                    rintro e w30 ⟨rfl, hb⟩
                    refine ⟨_, rfl, ?_⟩
                    have n0_ := Aside0.mk (blk_below (g := gb177) (o := .cells #[.int .i64 a1_0, .int .i64 a1_1, .int .i64 a1_2, .int .u32 a1_3, .int .u32 a1_4, .int .u32 a1_5, .int .u32 a1_6, .int .u32 a1_7, .int .u32 a1_8, .int .u32 a1_9] 25 (0, 0)) (by (with_reducible repeat (first | refine blk_drewN ?_ _ | refine blk_drew ?_ | refine blk_alloc ?_ _)); exact BK177.out) hb)
                    have n1_ := Aside0.mk (below_step (by repeat (first | (with_reducible first | exact HB.out | apply below_alloc | apply pw_below_drewN | apply below_drew1 | refine below_set ?_ GE177.out) | exact HB.out)) hb)
                    clear BK177
                    clear HB
                    have BK177 := n0_
                    have HB := n1_
                    clear n0_ n1_
                    (try clear hb)
                    (try clear hb2)
                    (try clear hk)
                    (try clear hi)
                    refine hK.out _ _ ⟨(blk_cell BK177.out 0).trans rfl, (blk_cell BK177.out 1).trans rfl, (blk_cell BK177.out 2).trans rfl, (blk_cell BK177.out 3).trans rfl, (blk_cell BK177.out 4).trans rfl, (blk_cell BK177.out 5).trans rfl, (blk_cell BK177.out 6).trans rfl, (blk_cell BK177.out 7).trans rfl, (blk_cell BK177.out 8).trans rfl, (blk_cell BK177.out 9).trans rfl, ((HB.out.cell (World.block_lt_of_cell? w _ hw187_0)).trans hw187_0), ((HB.out.cell (World.block_lt_of_cell? w _ hw187_1)).trans hw187_1), ((HB.out.cell (World.block_lt_of_cell? w _ hw187_2)).trans hw187_2), ((HB.out.cell (World.block_lt_of_cell? w _ hw187_3)).trans hw187_3), ((HB.out.cell (World.block_lt_of_cell? w _ hw187_4)).trans hw187_4), ((HB.out.cell (World.block_lt_of_cell? w _ hw187_5)).trans hw187_5), ((HB.out.cell (World.block_lt_of_cell? w _ hw187_6)).trans hw187_6), ((HB.out.cell (World.block_lt_of_cell? w _ hw187_7)).trans hw187_7), ((HB.out.cell (World.block_lt_of_cell? w _ hw187_8)).trans hw187_8), ((HB.out.cell (World.block_lt_of_cell? w _ hw187_9)).trans hw187_9), ((HB.out.cell (World.block_lt_of_cell? w _ hw189_0)).trans hw189_0), ((HB.out.cell (World.block_lt_of_cell? w _ hw189_1)).trans hw189_1), ((HB.out.cell (World.block_lt_of_cell? w _ hw189_2)).trans hw189_2), ((HB.out.cell (World.block_lt_of_cell? w _ hw189_3)).trans hw189_3), ((HB.out.cell (World.block_lt_of_cell? w _ hw189_4)).trans hw189_4), ((HB.out.cell (World.block_lt_of_cell? w _ hw189_5)).trans hw189_5), ((HB.out.cell (World.block_lt_of_cell? w _ hw189_6)).trans hw189_6), ((HB.out.cell (World.block_lt_of_cell? w _ hw189_7)).trans hw189_7), ((HB.out.cell (World.block_lt_of_cell? w _ hw189_8)).trans hw189_8), ((HB.out.cell (World.block_lt_of_cell? w _ hw189_9)).trans hw189_9), ((HB.out.cell (World.block_lt_of_cell? w _ hw191_0)).trans hw191_0), ((HB.out.cell (World.block_lt_of_cell? w _ hw191_1)).trans hw191_1), ((HB.out.cell (World.block_lt_of_cell? w _ hw191_2)).trans hw191_2), ((HB.out.cell (World.block_lt_of_cell? w _ hw191_3)).trans hw191_3), ((HB.out.cell (World.block_lt_of_cell? w _ hw191_4)).trans hw191_4), ((HB.out.cell (World.block_lt_of_cell? w _ hw191_5)).trans hw191_5), ((HB.out.cell (World.block_lt_of_cell? w _ hw191_6)).trans hw191_6), ((HB.out.cell (World.block_lt_of_cell? w _ hw191_7)).trans hw191_7), ((HB.out.cell (World.block_lt_of_cell? w _ hw191_8)).trans hw191_8), ((HB.out.cell (World.block_lt_of_cell? w _ hw191_9)).trans hw191_9), ((HB.out.cell (World.block_lt_of_cell? w _ hw193_0)).trans hw193_0), ((HB.out.cell (World.block_lt_of_cell? w _ hw193_1)).trans hw193_1), ((HB.out.cell (World.block_lt_of_cell? w _ hw193_2)).trans hw193_2), ((HB.out.cell (World.block_lt_of_cell? w _ hw193_3)).trans hw193_3), ((HB.out.cell (World.block_lt_of_cell? w _ hw193_4)).trans hw193_4), ((HB.out.cell (World.block_lt_of_cell? w _ hw193_5)).trans hw193_5), ((HB.out.cell (World.block_lt_of_cell? w _ hw193_6)).trans hw193_6), ((HB.out.cell (World.block_lt_of_cell? w _ hw193_7)).trans hw193_7), ((HB.out.cell (World.block_lt_of_cell? w _ hw193_8)).trans hw193_8), ((HB.out.cell (World.block_lt_of_cell? w _ hw193_9)).trans hw193_9)⟩ (fun hHeld => ?_)
                    clear hK K
                    refine norm_ (a' := ?_) ?_ ?_
                    rotate_left
                    · show Act.put _ (some 32) _ = _
                      simp only [Act.put, List.setIfInBounds_toArray, List.set_cons_zero, List.set_cons_succ, i64_w, i32_w]
                      rfl
                    refine one_ (i := 13) (N := some 39) #[true, true, true, true, true, true, true, true, true, true, true, true, true, true, false, false, false, false, false, false, false, false, false, false, false, false, false, false, false, false, false, false] rfl rfl (one_of HT_.out (by kernel_rfl)) (by decide) (fun K hK => ?_)
                    refine goes_ Try.func11 (by kernel_rfl) rfl #[.agg #[.int .i64 ((rd_T25 l0 x8_2).f0), .int .i64 ((rd_T25 l0 x8_2).f1), .int .i64 ((rd_T25 l0 x8_2).f2), .int .u32 ((rd_T25 l0 x8_2).f3), .int .u32 ((rd_T25 l0 x8_2).f4), .int .u32 ((rd_T25 l0 x8_2).f5), .int .u32 ((rd_T25 l0 x8_2).f6), .int .u32 ((rd_T25 l0 x8_2).f7), .int .u32 ((rd_T25 l0 x8_2).f8), .int .u32 ((rd_T25 l0 x8_2).f9)], .agg #[.int .i64 a1_0, .int .i64 a1_1, .int .i64 a1_2, .int .u32 a1_3, .int .u32 a1_4, .int .u32 a1_5, .int .u32 a1_6, .int .u32 a1_7, .int .u32 a1_8, .int .u32 a1_9], .int .i64 (wrap64 (Int.tmod a2 512))] (by rfl) rfl rfl (by (try simp only [List.map_toArray, List.map_cons, List.map_nil]); first | done | rfl | (simp only [List.length_drop, List.length_take]; rfl)) ?_
                    with_reducible refine (chamberlainref19_Fits.calls ((rd_T25 l0 x8_2).f0) ((rd_T25 l0 x8_2).f1) ((rd_T25 l0 x8_2).f2) ((rd_T25 l0 x8_2).f3) ((rd_T25 l0 x8_2).f4) ((rd_T25 l0 x8_2).f5) ((rd_T25 l0 x8_2).f6) ((rd_T25 l0 x8_2).f7) ((rd_T25 l0 x8_2).f8) ((rd_T25 l0 x8_2).f9) a1_0 a1_1 a1_2 a1_3 a1_4 a1_5 a1_6 a1_7 a1_8 a1_9 (wrap64 (Int.tmod a2 512)) t190 _ A16.out).mono ?_
                    rintro e w31 ⟨rfl, hb⟩
                    refine ⟨_, rfl, ?_⟩
                    have n0_ := Aside0.mk (blk_below (g := gb177) (o := .cells #[.int .i64 a1_0, .int .i64 a1_1, .int .i64 a1_2, .int .u32 a1_3, .int .u32 a1_4, .int .u32 a1_5, .int .u32 a1_6, .int .u32 a1_7, .int .u32 a1_8, .int .u32 a1_9] 25 (0, 0)) (by (with_reducible repeat (first | refine blk_drewN ?_ _ | refine blk_drew ?_ | refine blk_alloc ?_ _)); exact BK177.out) hb)
                    have n1_ := Aside0.mk (below_step (by repeat (first | (with_reducible first | exact HB.out | apply below_alloc | apply pw_below_drewN | apply below_drew1 | refine below_set ?_ GE177.out) | exact HB.out)) hb)
                    clear BK177
                    clear HB
                    have BK177 := n0_
                    have HB := n1_
                    clear n0_ n1_
                    (try clear hb)
                    (try clear hb2)
                    (try clear hk)
                    (try clear hi)
                    refine hK.out _ _ ⟨(blk_cell BK177.out 0).trans rfl, (blk_cell BK177.out 1).trans rfl, (blk_cell BK177.out 2).trans rfl, (blk_cell BK177.out 3).trans rfl, (blk_cell BK177.out 4).trans rfl, (blk_cell BK177.out 5).trans rfl, (blk_cell BK177.out 6).trans rfl, (blk_cell BK177.out 7).trans rfl, (blk_cell BK177.out 8).trans rfl, (blk_cell BK177.out 9).trans rfl, ((HB.out.cell (World.block_lt_of_cell? w _ hw187_0)).trans hw187_0), ((HB.out.cell (World.block_lt_of_cell? w _ hw187_1)).trans hw187_1), ((HB.out.cell (World.block_lt_of_cell? w _ hw187_2)).trans hw187_2), ((HB.out.cell (World.block_lt_of_cell? w _ hw187_3)).trans hw187_3), ((HB.out.cell (World.block_lt_of_cell? w _ hw187_4)).trans hw187_4), ((HB.out.cell (World.block_lt_of_cell? w _ hw187_5)).trans hw187_5), ((HB.out.cell (World.block_lt_of_cell? w _ hw187_6)).trans hw187_6), ((HB.out.cell (World.block_lt_of_cell? w _ hw187_7)).trans hw187_7), ((HB.out.cell (World.block_lt_of_cell? w _ hw187_8)).trans hw187_8), ((HB.out.cell (World.block_lt_of_cell? w _ hw187_9)).trans hw187_9), ((HB.out.cell (World.block_lt_of_cell? w _ hw189_0)).trans hw189_0), ((HB.out.cell (World.block_lt_of_cell? w _ hw189_1)).trans hw189_1), ((HB.out.cell (World.block_lt_of_cell? w _ hw189_2)).trans hw189_2), ((HB.out.cell (World.block_lt_of_cell? w _ hw189_3)).trans hw189_3), ((HB.out.cell (World.block_lt_of_cell? w _ hw189_4)).trans hw189_4), ((HB.out.cell (World.block_lt_of_cell? w _ hw189_5)).trans hw189_5), ((HB.out.cell (World.block_lt_of_cell? w _ hw189_6)).trans hw189_6), ((HB.out.cell (World.block_lt_of_cell? w _ hw189_7)).trans hw189_7), ((HB.out.cell (World.block_lt_of_cell? w _ hw189_8)).trans hw189_8), ((HB.out.cell (World.block_lt_of_cell? w _ hw189_9)).trans hw189_9), ((HB.out.cell (World.block_lt_of_cell? w _ hw191_0)).trans hw191_0), ((HB.out.cell (World.block_lt_of_cell? w _ hw191_1)).trans hw191_1), ((HB.out.cell (World.block_lt_of_cell? w _ hw191_2)).trans hw191_2), ((HB.out.cell (World.block_lt_of_cell? w _ hw191_3)).trans hw191_3), ((HB.out.cell (World.block_lt_of_cell? w _ hw191_4)).trans hw191_4), ((HB.out.cell (World.block_lt_of_cell? w _ hw191_5)).trans hw191_5), ((HB.out.cell (World.block_lt_of_cell? w _ hw191_6)).trans hw191_6), ((HB.out.cell (World.block_lt_of_cell? w _ hw191_7)).trans hw191_7), ((HB.out.cell (World.block_lt_of_cell? w _ hw191_8)).trans hw191_8), ((HB.out.cell (World.block_lt_of_cell? w _ hw191_9)).trans hw191_9), ((HB.out.cell (World.block_lt_of_cell? w _ hw193_0)).trans hw193_0), ((HB.out.cell (World.block_lt_of_cell? w _ hw193_1)).trans hw193_1), ((HB.out.cell (World.block_lt_of_cell? w _ hw193_2)).trans hw193_2), ((HB.out.cell (World.block_lt_of_cell? w _ hw193_3)).trans hw193_3), ((HB.out.cell (World.block_lt_of_cell? w _ hw193_4)).trans hw193_4), ((HB.out.cell (World.block_lt_of_cell? w _ hw193_5)).trans hw193_5), ((HB.out.cell (World.block_lt_of_cell? w _ hw193_6)).trans hw193_6), ((HB.out.cell (World.block_lt_of_cell? w _ hw193_7)).trans hw193_7), ((HB.out.cell (World.block_lt_of_cell? w _ hw193_8)).trans hw193_8), ((HB.out.cell (World.block_lt_of_cell? w _ hw193_9)).trans hw193_9)⟩ (fun hHeld => ?_)
                    clear hK K
                    refine norm_ (a' := ?_) ?_ ?_
                    rotate_left
                    · show Act.put _ (some 39) _ = _
                      simp only [Act.put, List.setIfInBounds_toArray, List.set_cons_zero, List.set_cons_succ, i64_w, i32_w]
                      rfl
                    refine pure_ (i := 14) (N := some 40) (v := ?_) (a' := ?_) #[true, true, true, true, true, true, true, true, true, true, true, true, true, true, true, false, false, false, false, false, false, false, false, false, false, false, false, false, false, false, false, false] rfl rfl (any_of HT_.out (by kernel_rfl)) (fun _ _ _ h => h) (Or.inl ⟨by rfl, ?_⟩) ?_ ?_
                    rotate_left
                    · intro w'
                      go_simp
                      with_reducible rfl
                    rotate_left
                    · simp only [Act.put, List.setIfInBounds_toArray, List.set_cons_zero, List.set_cons_succ, i64_w, i32_w]
                      rfl
                    refine pure_ (i := 15) (N := some 41) (v := ?_) (a' := ?_) #[true, true, true, true, true, true, true, true, true, true, true, true, true, true, true, true, false, false, false, false, false, false, false, false, false, false, false, false, false, false, false, false] rfl rfl (any_of HT_.out (by kernel_rfl)) (fun _ _ _ h => h) (Or.inl ⟨by rfl, ?_⟩) ?_ ?_
                    rotate_left
                    · intro w'
                      go_simp
                      with_reducible rfl
                    rotate_left
                    · simp only [Act.put, List.setIfInBounds_toArray, List.set_cons_zero, List.set_cons_succ, i64_w, i32_w]
                      rfl
                    refine pure_ (i := 17) (N := some 43) (v := ?_) (a' := ?_) #[true, true, true, true, true, true, true, true, true, true, true, true, true, true, true, true, false, true, false, false, false, false, false, false, false, false, false, false, false, false, false, false] rfl rfl (any_of HT_.out (by kernel_rfl)) (fun _ _ _ h => h) (Or.inl ⟨by rfl, ?_⟩) ?_ ?_
                    rotate_left
                    · intro w'
                      go_simp
                      with_reducible rfl
                    rotate_left
                    · simp only [Act.put, List.setIfInBounds_toArray, List.set_cons_zero, List.set_cons_succ, i64_w, i32_w]
                      rfl
                    refine pure_ (i := 18) (N := some 44) (v := ?_) (a' := ?_) #[true, true, true, true, true, true, true, true, true, true, true, true, true, true, true, true, false, true, true, false, false, false, false, false, false, false, false, false, false, false, false, false] rfl rfl (any_of HT_.out (by kernel_rfl)) (fun _ _ _ h => h) (Or.inl ⟨by rfl, ?_⟩) ?_ ?_
                    rotate_left
                    · intro w'
                      go_simp
                      with_reducible rfl
                    rotate_left
                    · simp only [Act.put, List.setIfInBounds_toArray, List.set_cons_zero, List.set_cons_succ, i64_w, i32_w]
                      rfl
                    refine pure_ (i := 19) (N := some 45) (v := ?_) (a' := ?_) #[true, true, true, true, true, true, true, true, true, true, true, true, true, true, true, true, false, true, true, true, false, false, false, false, false, false, false, false, false, false, false, false] rfl rfl (any_of HT_.out (by kernel_rfl)) (fun _ _ _ h => h) (Or.inl ⟨by rfl, ?_⟩) ?_ ?_
                    rotate_left
                    · intro w'
                      go_simp
                      with_reducible rfl
                    rotate_left
                    · simp only [Act.put, List.setIfInBounds_toArray, List.set_cons_zero, List.set_cons_succ, i64_w, i32_w]
                      rfl
                    refine pure_ (i := 21) (N := some 47) (v := ?_) (a' := ?_) #[true, true, true, true, true, true, true, true, true, true, true, true, true, true, true, true, false, true, true, true, false, true, false, false, false, false, false, false, false, false, false, false] rfl rfl (any_of HT_.out (by kernel_rfl)) (fun _ _ _ h => h) (Or.inl ⟨by rfl, ?_⟩) ?_ ?_
                    rotate_left
                    · intro w'
                      go_simp
                      with_reducible rfl
                    rotate_left
                    · simp only [Act.put, List.setIfInBounds_toArray, List.set_cons_zero, List.set_cons_succ, i64_w, i32_w]
                      rfl
                    refine pure_ (i := 23) (N := some 49) (v := ?_) (a' := ?_) #[true, true, true, true, true, true, true, true, true, true, true, true, true, true, true, true, false, true, true, true, false, true, false, true, false, false, false, false, false, false, false, false] rfl rfl (any_of HT_.out (by kernel_rfl)) (fun _ _ _ h => h) (Or.inl ⟨by rfl, ?_⟩) ?_ ?_
                    rotate_left
                    · intro w'
                      go_simp
                      with_reducible rfl
                    rotate_left
                    · simp only [Act.put, List.setIfInBounds_toArray, List.set_cons_zero, List.set_cons_succ, i64_w, i32_w]
                      rfl
                    refine pure_ (i := 24) (N := some 50) (v := ?_) (a' := ?_) #[true, true, true, true, true, true, true, true, true, true, true, true, true, true, true, true, false, true, true, true, false, true, false, true, true, false, false, false, false, false, false, false] rfl rfl (any_of HT_.out (by kernel_rfl)) (fun _ _ _ h => h) (Or.inl ⟨by rfl, ?_⟩) ?_ ?_
                    rotate_left
                    · intro w'
                      go_simp
                      with_reducible rfl
                    rotate_left
                    · simp only [Act.put, List.setIfInBounds_toArray, List.set_cons_zero, List.set_cons_succ, i64_w, i32_w]
                      rfl
                    refine pure_ (i := 25) (N := some 51) (v := ?_) (a' := ?_) #[true, true, true, true, true, true, true, true, true, true, true, true, true, true, true, true, false, true, true, true, false, true, false, true, true, true, false, false, false, false, false, false] rfl rfl (any_of HT_.out (by kernel_rfl)) (fun _ _ _ h => h) (Or.inl ⟨by rfl, ?_⟩) ?_ ?_
                    rotate_left
                    · intro w'
                      go_simp
                      with_reducible rfl
                    rotate_left
                    · simp only [Act.put, List.setIfInBounds_toArray, List.set_cons_zero, List.set_cons_succ, i64_w, i32_w]
                      rfl
                    refine pure_ (i := 28) (N := some 54) (v := ?_) (a' := ?_) #[true, true, true, true, true, true, true, true, true, true, true, true, true, true, true, true, false, true, true, true, false, true, false, true, true, true, false, false, true, false, false, false] rfl rfl (any_of HT_.out (by kernel_rfl)) (fun _ _ _ h => h) (Or.inl ⟨by rfl, ?_⟩) ?_ ?_
                    rotate_left
                    · intro w'
                      go_simp
                      with_reducible rfl
                    rotate_left
                    · simp only [Act.put, List.setIfInBounds_toArray, List.set_cons_zero, List.set_cons_succ, i64_w, i32_w]
                      rfl
                    refine take_ (i := 16) (N := some 42) (v := ?_) (a' := ?_) #[true, true, true, true, true, true, true, true, true, true, true, true, true, true, true, true, true, true, true, true, false, true, false, true, true, true, false, false, true, false, false, false] rfl rfl (take_ofW HT_.out HW_.out (by kernel_rfl)) (fun _ _ _ h => h) (Or.inl ⟨by rfl, ?_⟩) hHeld ?_ ?_
                    rotate_left
                    · rintro w' ⟨s0, s1, s2, s3, s4, s5, s6, s7, s8, s9, s10, s11, s12, s13, s14, s15, s16, s17, s18, s19, s20, s21, s22, s23, s24, s25, s26, s27, s28, s29, s30, s31, s32, s33, s34, s35, s36, s37, s38, s39, s40, s41, s42, s43, s44, s45, s46, s47, s48, s49⟩
                      go_simp
                      with_reducible rfl
                    rotate_left
                    · simp only [Act.put, List.setIfInBounds_toArray, List.set_cons_zero, List.set_cons_succ, i64_w, i32_w]
                      rfl
                    refine take_ (i := 20) (N := some 46) (v := ?_) (a' := ?_) #[true, true, true, true, true, true, true, true, true, true, true, true, true, true, true, true, true, true, true, true, true, true, false, true, true, true, false, false, true, false, false, false] rfl rfl (take_ofW HT_.out HW_.out (by kernel_rfl)) (fun _ _ _ h => h) (Or.inl ⟨by rfl, ?_⟩) hHeld ?_ ?_
                    rotate_left
                    · rintro w' ⟨s0, s1, s2, s3, s4, s5, s6, s7, s8, s9, s10, s11, s12, s13, s14, s15, s16, s17, s18, s19, s20, s21, s22, s23, s24, s25, s26, s27, s28, s29, s30, s31, s32, s33, s34, s35, s36, s37, s38, s39, s40, s41, s42, s43, s44, s45, s46, s47, s48, s49⟩
                      go_simp
                      with_reducible rfl
                    rotate_left
                    · simp only [Act.put, List.setIfInBounds_toArray, List.set_cons_zero, List.set_cons_succ, i64_w, i32_w]
                      rfl
                    refine take_ (i := 26) (N := some 52) (v := ?_) (a' := ?_) #[true, true, true, true, true, true, true, true, true, true, true, true, true, true, true, true, true, true, true, true, true, true, false, true, true, true, true, false, true, false, false, false] rfl rfl (take_ofW HT_.out HW_.out (by kernel_rfl)) (fun _ _ _ h => h) (Or.inl ⟨by rfl, ?_⟩) hHeld ?_ ?_
                    rotate_left
                    · rintro w' ⟨s0, s1, s2, s3, s4, s5, s6, s7, s8, s9, s10, s11, s12, s13, s14, s15, s16, s17, s18, s19, s20, s21, s22, s23, s24, s25, s26, s27, s28, s29, s30, s31, s32, s33, s34, s35, s36, s37, s38, s39, s40, s41, s42, s43, s44, s45, s46, s47, s48, s49⟩
                      go_simp
                      with_reducible rfl
                    rotate_left
                    · simp only [Act.put, List.setIfInBounds_toArray, List.set_cons_zero, List.set_cons_succ, i64_w, i32_w]
                      rfl
                    refine take_ (i := 27) (N := some 53) (v := ?_) (a' := ?_) #[true, true, true, true, true, true, true, true, true, true, true, true, true, true, true, true, true, true, true, true, true, true, false, true, true, true, true, true, true, false, false, false] rfl rfl (take_ofW HT_.out HW_.out (by kernel_rfl)) (fun _ _ _ h => h) (Or.inl ⟨by rfl, ?_⟩) hHeld ?_ ?_
                    rotate_left
                    · rintro w' ⟨s0, s1, s2, s3, s4, s5, s6, s7, s8, s9, s10, s11, s12, s13, s14, s15, s16, s17, s18, s19, s20, s21, s22, s23, s24, s25, s26, s27, s28, s29, s30, s31, s32, s33, s34, s35, s36, s37, s38, s39, s40, s41, s42, s43, s44, s45, s46, s47, s48, s49⟩
                      go_simp
                      with_reducible rfl
                    rotate_left
                    · simp only [Act.put, List.setIfInBounds_toArray, List.set_cons_zero, List.set_cons_succ, i64_w, i32_w]
                      rfl
                    refine one_ (i := 22) (N := some 48) #[true, true, true, true, true, true, true, true, true, true, true, true, true, true, true, true, true, true, true, true, true, true, true, true, true, true, true, true, true, false, false, false] rfl rfl (one_of HT_.out (by kernel_rfl)) (by decide) (fun K hK => ?_)
                    refine goes_ Try.func10 (by kernel_rfl) rfl #[.agg #[.int .i64 a1_0, .int .i64 a1_1, .int .i64 a1_2, .int .u32 a1_3, .int .u32 a1_4, .int .u32 a1_5, .int .u32 a1_6, .int .u32 a1_7, .int .u32 a1_8, .int .u32 a1_9], .agg #[.int .i64 ((rd_T25 l0 x8_2).f0), .int .i64 ((rd_T25 l0 x8_2).f1), .int .i64 ((rd_T25 l0 x8_2).f2), .int .u32 ((rd_T25 l0 x8_2).f3), .int .u32 ((rd_T25 l0 x8_2).f4), .int .u32 ((rd_T25 l0 x8_2).f5), .int .u32 ((rd_T25 l0 x8_2).f6), .int .u32 ((rd_T25 l0 x8_2).f7), .int .u32 ((rd_T25 l0 x8_2).f8), .int .u32 ((rd_T25 l0 x8_2).f9)], .int .i64 (wrap64 (Int.tmod a2 512))] (by rfl) rfl rfl (by (try simp only [List.map_toArray, List.map_cons, List.map_nil]); first | done | rfl | (simp only [List.length_drop, List.length_take]; rfl)) ?_
                    with_reducible refine (log_Fits.calls a1_0 a1_1 a1_2 a1_3 a1_4 a1_5 a1_6 a1_7 a1_8 a1_9 ((rd_T25 l0 x8_2).f0) ((rd_T25 l0 x8_2).f1) ((rd_T25 l0 x8_2).f2) ((rd_T25 l0 x8_2).f3) ((rd_T25 l0 x8_2).f4) ((rd_T25 l0 x8_2).f5) ((rd_T25 l0 x8_2).f6) ((rd_T25 l0 x8_2).f7) ((rd_T25 l0 x8_2).f8) ((rd_T25 l0 x8_2).f9) (wrap64 (Int.tmod a2 512)) t192 _ A21.out).mono ?_
                    rintro e w32 ⟨rfl, hb⟩
                    refine ⟨_, rfl, ?_⟩
                    have n0_ := Aside0.mk (blk_below (g := gb177) (o := .cells #[.int .i64 a1_0, .int .i64 a1_1, .int .i64 a1_2, .int .u32 a1_3, .int .u32 a1_4, .int .u32 a1_5, .int .u32 a1_6, .int .u32 a1_7, .int .u32 a1_8, .int .u32 a1_9] 25 (0, 0)) (by (with_reducible repeat (first | refine blk_drewN ?_ _ | refine blk_drew ?_ | refine blk_alloc ?_ _)); exact BK177.out) hb)
                    have n1_ := Aside0.mk (below_step (by repeat (first | (with_reducible first | exact HB.out | apply below_alloc | apply pw_below_drewN | apply below_drew1 | refine below_set ?_ GE177.out) | exact HB.out)) hb)
                    clear BK177
                    clear HB
                    have BK177 := n0_
                    have HB := n1_
                    clear n0_ n1_
                    (try clear hb)
                    (try clear hb2)
                    (try clear hk)
                    (try clear hi)
                    refine hK.out _ _ ⟨(blk_cell BK177.out 0).trans rfl, (blk_cell BK177.out 1).trans rfl, (blk_cell BK177.out 2).trans rfl, (blk_cell BK177.out 3).trans rfl, (blk_cell BK177.out 4).trans rfl, (blk_cell BK177.out 5).trans rfl, (blk_cell BK177.out 6).trans rfl, (blk_cell BK177.out 7).trans rfl, (blk_cell BK177.out 8).trans rfl, (blk_cell BK177.out 9).trans rfl, ((HB.out.cell (World.block_lt_of_cell? w _ hw187_0)).trans hw187_0), ((HB.out.cell (World.block_lt_of_cell? w _ hw187_1)).trans hw187_1), ((HB.out.cell (World.block_lt_of_cell? w _ hw187_2)).trans hw187_2), ((HB.out.cell (World.block_lt_of_cell? w _ hw187_3)).trans hw187_3), ((HB.out.cell (World.block_lt_of_cell? w _ hw187_4)).trans hw187_4), ((HB.out.cell (World.block_lt_of_cell? w _ hw187_5)).trans hw187_5), ((HB.out.cell (World.block_lt_of_cell? w _ hw187_6)).trans hw187_6), ((HB.out.cell (World.block_lt_of_cell? w _ hw187_7)).trans hw187_7), ((HB.out.cell (World.block_lt_of_cell? w _ hw187_8)).trans hw187_8), ((HB.out.cell (World.block_lt_of_cell? w _ hw187_9)).trans hw187_9), ((HB.out.cell (World.block_lt_of_cell? w _ hw189_0)).trans hw189_0), ((HB.out.cell (World.block_lt_of_cell? w _ hw189_1)).trans hw189_1), ((HB.out.cell (World.block_lt_of_cell? w _ hw189_2)).trans hw189_2), ((HB.out.cell (World.block_lt_of_cell? w _ hw189_3)).trans hw189_3), ((HB.out.cell (World.block_lt_of_cell? w _ hw189_4)).trans hw189_4), ((HB.out.cell (World.block_lt_of_cell? w _ hw189_5)).trans hw189_5), ((HB.out.cell (World.block_lt_of_cell? w _ hw189_6)).trans hw189_6), ((HB.out.cell (World.block_lt_of_cell? w _ hw189_7)).trans hw189_7), ((HB.out.cell (World.block_lt_of_cell? w _ hw189_8)).trans hw189_8), ((HB.out.cell (World.block_lt_of_cell? w _ hw189_9)).trans hw189_9), ((HB.out.cell (World.block_lt_of_cell? w _ hw191_0)).trans hw191_0), ((HB.out.cell (World.block_lt_of_cell? w _ hw191_1)).trans hw191_1), ((HB.out.cell (World.block_lt_of_cell? w _ hw191_2)).trans hw191_2), ((HB.out.cell (World.block_lt_of_cell? w _ hw191_3)).trans hw191_3), ((HB.out.cell (World.block_lt_of_cell? w _ hw191_4)).trans hw191_4), ((HB.out.cell (World.block_lt_of_cell? w _ hw191_5)).trans hw191_5), ((HB.out.cell (World.block_lt_of_cell? w _ hw191_6)).trans hw191_6), ((HB.out.cell (World.block_lt_of_cell? w _ hw191_7)).trans hw191_7), ((HB.out.cell (World.block_lt_of_cell? w _ hw191_8)).trans hw191_8), ((HB.out.cell (World.block_lt_of_cell? w _ hw191_9)).trans hw191_9), ((HB.out.cell (World.block_lt_of_cell? w _ hw193_0)).trans hw193_0), ((HB.out.cell (World.block_lt_of_cell? w _ hw193_1)).trans hw193_1), ((HB.out.cell (World.block_lt_of_cell? w _ hw193_2)).trans hw193_2), ((HB.out.cell (World.block_lt_of_cell? w _ hw193_3)).trans hw193_3), ((HB.out.cell (World.block_lt_of_cell? w _ hw193_4)).trans hw193_4), ((HB.out.cell (World.block_lt_of_cell? w _ hw193_5)).trans hw193_5), ((HB.out.cell (World.block_lt_of_cell? w _ hw193_6)).trans hw193_6), ((HB.out.cell (World.block_lt_of_cell? w _ hw193_7)).trans hw193_7), ((HB.out.cell (World.block_lt_of_cell? w _ hw193_8)).trans hw193_8), ((HB.out.cell (World.block_lt_of_cell? w _ hw193_9)).trans hw193_9)⟩ (fun hHeld => ?_)
                    clear hK K
                    refine norm_ (a' := ?_) ?_ ?_
                    rotate_left
                    · show Act.put _ (some 48) _ = _
                      simp only [Act.put, List.setIfInBounds_toArray, List.set_cons_zero, List.set_cons_succ, i64_w, i32_w]
                      rfl
                    refine one_ (i := 29) (N := some 55) #[true, true, true, true, true, true, true, true, true, true, true, true, true, true, true, true, true, true, true, true, true, true, true, true, true, true, true, true, true, true, false, false] rfl rfl (one_of HT_.out (by kernel_rfl)) (by decide) (fun K hK => ?_)
                    refine goes_ Try.func11 (by kernel_rfl) rfl #[.agg #[.int .i64 ((rd_T25 l0 x8_2).f0), .int .i64 ((rd_T25 l0 x8_2).f1), .int .i64 ((rd_T25 l0 x8_2).f2), .int .u32 ((rd_T25 l0 x8_2).f3), .int .u32 ((rd_T25 l0 x8_2).f4), .int .u32 ((rd_T25 l0 x8_2).f5), .int .u32 ((rd_T25 l0 x8_2).f6), .int .u32 ((rd_T25 l0 x8_2).f7), .int .u32 ((rd_T25 l0 x8_2).f8), .int .u32 ((rd_T25 l0 x8_2).f9)], .agg #[.int .i64 a1_0, .int .i64 a1_1, .int .i64 a1_2, .int .u32 a1_3, .int .u32 a1_4, .int .u32 a1_5, .int .u32 a1_6, .int .u32 a1_7, .int .u32 a1_8, .int .u32 a1_9], .int .i64 (wrap64 (Int.tmod a2 512))] (by rfl) rfl rfl (by (try simp only [List.map_toArray, List.map_cons, List.map_nil]); first | done | rfl | (simp only [List.length_drop, List.length_take]; rfl)) ?_
                    with_reducible refine (chamberlainref19_Fits.calls ((rd_T25 l0 x8_2).f0) ((rd_T25 l0 x8_2).f1) ((rd_T25 l0 x8_2).f2) ((rd_T25 l0 x8_2).f3) ((rd_T25 l0 x8_2).f4) ((rd_T25 l0 x8_2).f5) ((rd_T25 l0 x8_2).f6) ((rd_T25 l0 x8_2).f7) ((rd_T25 l0 x8_2).f8) ((rd_T25 l0 x8_2).f9) a1_0 a1_1 a1_2 a1_3 a1_4 a1_5 a1_6 a1_7 a1_8 a1_9 (wrap64 (Int.tmod a2 512)) t194 _ A22.out).mono ?_
                    rintro e w33 ⟨rfl, hb⟩
                    refine ⟨_, rfl, ?_⟩
                    have n0_ := Aside0.mk (blk_below (g := gb177) (o := .cells #[.int .i64 a1_0, .int .i64 a1_1, .int .i64 a1_2, .int .u32 a1_3, .int .u32 a1_4, .int .u32 a1_5, .int .u32 a1_6, .int .u32 a1_7, .int .u32 a1_8, .int .u32 a1_9] 25 (0, 0)) (by (with_reducible repeat (first | refine blk_drewN ?_ _ | refine blk_drew ?_ | refine blk_alloc ?_ _)); exact BK177.out) hb)
                    have n1_ := Aside0.mk (below_step (by repeat (first | (with_reducible first | exact HB.out | apply below_alloc | apply pw_below_drewN | apply below_drew1 | refine below_set ?_ GE177.out) | exact HB.out)) hb)
                    clear BK177
                    clear HB
                    have BK177 := n0_
                    have HB := n1_
                    clear n0_ n1_
                    (try clear hb)
                    (try clear hb2)
                    (try clear hk)
                    (try clear hi)
                    refine hK.out _ _ ⟨(blk_cell BK177.out 0).trans rfl, (blk_cell BK177.out 1).trans rfl, (blk_cell BK177.out 2).trans rfl, (blk_cell BK177.out 3).trans rfl, (blk_cell BK177.out 4).trans rfl, (blk_cell BK177.out 5).trans rfl, (blk_cell BK177.out 6).trans rfl, (blk_cell BK177.out 7).trans rfl, (blk_cell BK177.out 8).trans rfl, (blk_cell BK177.out 9).trans rfl, ((HB.out.cell (World.block_lt_of_cell? w _ hw187_0)).trans hw187_0), ((HB.out.cell (World.block_lt_of_cell? w _ hw187_1)).trans hw187_1), ((HB.out.cell (World.block_lt_of_cell? w _ hw187_2)).trans hw187_2), ((HB.out.cell (World.block_lt_of_cell? w _ hw187_3)).trans hw187_3), ((HB.out.cell (World.block_lt_of_cell? w _ hw187_4)).trans hw187_4), ((HB.out.cell (World.block_lt_of_cell? w _ hw187_5)).trans hw187_5), ((HB.out.cell (World.block_lt_of_cell? w _ hw187_6)).trans hw187_6), ((HB.out.cell (World.block_lt_of_cell? w _ hw187_7)).trans hw187_7), ((HB.out.cell (World.block_lt_of_cell? w _ hw187_8)).trans hw187_8), ((HB.out.cell (World.block_lt_of_cell? w _ hw187_9)).trans hw187_9), ((HB.out.cell (World.block_lt_of_cell? w _ hw189_0)).trans hw189_0), ((HB.out.cell (World.block_lt_of_cell? w _ hw189_1)).trans hw189_1), ((HB.out.cell (World.block_lt_of_cell? w _ hw189_2)).trans hw189_2), ((HB.out.cell (World.block_lt_of_cell? w _ hw189_3)).trans hw189_3), ((HB.out.cell (World.block_lt_of_cell? w _ hw189_4)).trans hw189_4), ((HB.out.cell (World.block_lt_of_cell? w _ hw189_5)).trans hw189_5), ((HB.out.cell (World.block_lt_of_cell? w _ hw189_6)).trans hw189_6), ((HB.out.cell (World.block_lt_of_cell? w _ hw189_7)).trans hw189_7), ((HB.out.cell (World.block_lt_of_cell? w _ hw189_8)).trans hw189_8), ((HB.out.cell (World.block_lt_of_cell? w _ hw189_9)).trans hw189_9), ((HB.out.cell (World.block_lt_of_cell? w _ hw191_0)).trans hw191_0), ((HB.out.cell (World.block_lt_of_cell? w _ hw191_1)).trans hw191_1), ((HB.out.cell (World.block_lt_of_cell? w _ hw191_2)).trans hw191_2), ((HB.out.cell (World.block_lt_of_cell? w _ hw191_3)).trans hw191_3), ((HB.out.cell (World.block_lt_of_cell? w _ hw191_4)).trans hw191_4), ((HB.out.cell (World.block_lt_of_cell? w _ hw191_5)).trans hw191_5), ((HB.out.cell (World.block_lt_of_cell? w _ hw191_6)).trans hw191_6), ((HB.out.cell (World.block_lt_of_cell? w _ hw191_7)).trans hw191_7), ((HB.out.cell (World.block_lt_of_cell? w _ hw191_8)).trans hw191_8), ((HB.out.cell (World.block_lt_of_cell? w _ hw191_9)).trans hw191_9), ((HB.out.cell (World.block_lt_of_cell? w _ hw193_0)).trans hw193_0), ((HB.out.cell (World.block_lt_of_cell? w _ hw193_1)).trans hw193_1), ((HB.out.cell (World.block_lt_of_cell? w _ hw193_2)).trans hw193_2), ((HB.out.cell (World.block_lt_of_cell? w _ hw193_3)).trans hw193_3), ((HB.out.cell (World.block_lt_of_cell? w _ hw193_4)).trans hw193_4), ((HB.out.cell (World.block_lt_of_cell? w _ hw193_5)).trans hw193_5), ((HB.out.cell (World.block_lt_of_cell? w _ hw193_6)).trans hw193_6), ((HB.out.cell (World.block_lt_of_cell? w _ hw193_7)).trans hw193_7), ((HB.out.cell (World.block_lt_of_cell? w _ hw193_8)).trans hw193_8), ((HB.out.cell (World.block_lt_of_cell? w _ hw193_9)).trans hw193_9)⟩ (fun hHeld => ?_)
                    clear hK K
                    refine norm_ (a' := ?_) ?_ ?_
                    rotate_left
                    · show Act.put _ (some 55) _ = _
                      simp only [Act.put, List.setIfInBounds_toArray, List.set_cons_zero, List.set_cons_succ, i64_w, i32_w]
                      rfl
                    refine pure_ (i := 30) (N := some 56) (v := ?_) (a' := ?_) #[true, true, true, true, true, true, true, true, true, true, true, true, true, true, true, true, true, true, true, true, true, true, true, true, true, true, true, true, true, true, true, false] rfl rfl (any_of HT_.out (by kernel_rfl)) (fun _ _ _ h => h) (Or.inl ⟨by rfl, ?_⟩) ?_ ?_
                    rotate_left
                    · intro w'
                      go_simp
                      with_reducible rfl
                    rotate_left
                    · simp only [Act.put, List.setIfInBounds_toArray, List.set_cons_zero, List.set_cons_succ, i64_w, i32_w]
                      rfl
                    refine pure_ (i := 31) (N := some 57) (v := ?_) (a' := ?_) #[true, true, true, true, true, true, true, true, true, true, true, true, true, true, true, true, true, true, true, true, true, true, true, true, true, true, true, true, true, true, true, true] rfl rfl (any_of HT_.out (by kernel_rfl)) (fun _ _ _ h => h) (Or.inl ⟨by rfl, ?_⟩) ?_ ?_
                    rotate_left
                    · intro w'
                      go_simp
                      with_reducible rfl
                    rotate_left
                    · simp only [Act.put, List.setIfInBounds_toArray, List.set_cons_zero, List.set_cons_succ, i64_w, i32_w]
                      rfl
                    refine done_ (done_of HT_.out (by kernel_rfl)) ?_
                    try go_wp2
                    go_roundg k2
                    case measure => have := HJ3.out; have := HK2.out; omega
                    case rel => exact ⟨(wrap64 (x8_2 + 1)), (by first | rfl | (simp; done) | (simp [*]; done)), H', ⟨by have := HJ3.out; have := HK2.out; omega⟩, ⟨by (with_reducible repeat (first | refine blk_drewN ?_ _ | refine blk_drew ?_ | refine blk_alloc ?_ _)); exact BK177.out⟩, ⟨by repeat (first | (with_reducible first | exact HB.out | apply below_alloc | apply pw_below_drewN | apply below_drew1 | refine below_set ?_ GE177.out) | exact HB.out)⟩⟩
              · rw [if_neg c14] at H
                exact absurd H (by simp)
            · rw [if_neg c13] at H
              have c13b0 : decide (x8_2 < (l0.length : Int)) = false := decide_eq_false c13
              clear c13
              replace H := Option.bind_eq_some_iff.mp H
              obtain ⟨t180, A340, H⟩ := H
              replace H : ((chamberlainref19_Select.f k2 l0 a1_0 a1_1 a1_2 a1_3 a1_4 a1_5 a1_6 a1_7 a1_8 a1_9 (wrap64 (Int.tmod a2 512))).bind fun t183 => ((chamberlainref12_Events.f k2 t180 t183).bind fun t186 => (some t186))) = some r := H
              have A34 := Aside0.mk A340
              clear A340
              replace H := Option.bind_eq_some_iff.mp H
              obtain ⟨t183, A350, H⟩ := H
              replace H : ((chamberlainref12_Events.f k2 t180 t183).bind fun t186 => (some t186)) = some r := H
              have A35 := Aside0.mk A350
              clear A350
              replace H := Option.bind_eq_some_iff.mp H
              obtain ⟨t186, A360, H⟩ := H
              replace H : (some t186) = some r := H
              have A36 := Aside0.mk A360
              clear A360
              obtain rfl := Option.some.inj H
              try go_wp2
              have n0_ := Aside0.mk (blk_drew BK177.out)
              have n1_ := Aside0.mk (below_drew1 HB.out)
              clear BK177
              clear HB
              have BK177 := n0_
              have HB := n1_
              clear n0_ n1_
              refine start_ (n := 10) (S := fun w' => w'.cell? ⟨gb177, 0, none⟩ = some (.int .i64 a1_0) ∧ w'.cell? ⟨gb177, 1, none⟩ = some (.int .i64 a1_1) ∧ w'.cell? ⟨gb177, 2, none⟩ = some (.int .i64 a1_2) ∧ w'.cell? ⟨gb177, 3, none⟩ = some (.int .u32 a1_3) ∧ w'.cell? ⟨gb177, 4, none⟩ = some (.int .u32 a1_4) ∧ w'.cell? ⟨gb177, 5, none⟩ = some (.int .u32 a1_5) ∧ w'.cell? ⟨gb177, 6, none⟩ = some (.int .u32 a1_6) ∧ w'.cell? ⟨gb177, 7, none⟩ = some (.int .u32 a1_7) ∧ w'.cell? ⟨gb177, 8, none⟩ = some (.int .u32 a1_8) ∧ w'.cell? ⟨gb177, 9, none⟩ = some (.int .u32 a1_9)) (ds := []) #[false, false, false, false, false, false, false, false, false, false] (by kernel_rfl) rfl rfl ⟨(blk_cell BK177.out 0).trans rfl, (blk_cell BK177.out 1).trans rfl, (blk_cell BK177.out 2).trans rfl, (blk_cell BK177.out 3).trans rfl, (blk_cell BK177.out 4).trans rfl, (blk_cell BK177.out 5).trans rfl, (blk_cell BK177.out 6).trans rfl, (blk_cell BK177.out 7).trans rfl, (blk_cell BK177.out 8).trans rfl, (blk_cell BK177.out 9).trans rfl⟩ (fun hHeld => ?_); refine with_tabW chamberlainlaw19_LogSelects.tab9 chamberlainlaw19_LogSelects.bits9 (fun HT_ HW_ => ?_)
              generalize wr.drew = w37 at BK177 HB hHeld ⊢
              refine pure_ (i := 0) (N := some 58) (v := ?_) (a' := ?_) #[true, false, false, false, false, false, false, false, false, false] rfl rfl (any_of HT_.out (by kernel_rfl)) (fun _ _ _ h => h) (Or.inl ⟨by rfl, ?_⟩) ?_ ?_
              rotate_left
              · intro w'
                go_simp
                with_reducible rfl
              rotate_left
              · simp only [Act.put, List.setIfInBounds_toArray, List.set_cons_zero, List.set_cons_succ, i64_w, i32_w]
                rfl
              refine pure_ (i := 2) (N := some 60) (v := ?_) (a' := ?_) #[true, false, true, false, false, false, false, false, false, false] rfl rfl (any_of HT_.out (by kernel_rfl)) (fun _ _ _ h => h) (Or.inl ⟨by rfl, ?_⟩) ?_ ?_
              rotate_left
              · intro w'
                go_simp
                with_reducible rfl
              rotate_left
              · simp only [Act.put, List.setIfInBounds_toArray, List.set_cons_zero, List.set_cons_succ, i64_w, i32_w]
                rfl
              refine pure_ (i := 4) (N := some 62) (v := ?_) (a' := ?_) #[true, false, true, false, true, false, false, false, false, false] rfl rfl (any_of HT_.out (by kernel_rfl)) (fun _ _ _ h => h) (Or.inl ⟨by rfl, ?_⟩) ?_ ?_
              rotate_left
              · intro w'
                go_simp
                with_reducible rfl
              rotate_left
              · simp only [Act.put, List.setIfInBounds_toArray, List.set_cons_zero, List.set_cons_succ, i64_w, i32_w]
                rfl
              refine pure_ (i := 6) (N := some 64) (v := ?_) (a' := ?_) #[true, false, true, false, true, false, true, false, false, false] rfl rfl (any_of HT_.out (by kernel_rfl)) (fun _ _ _ h => h) (Or.inl ⟨by rfl, ?_⟩) ?_ ?_
              rotate_left
              · intro w'
                go_simp
                with_reducible rfl
              rotate_left
              · simp only [Act.put, List.setIfInBounds_toArray, List.set_cons_zero, List.set_cons_succ, i64_w, i32_w]
                rfl
              refine take_ (i := 1) (N := some 59) (v := ?_) (a' := ?_) #[true, true, true, false, true, false, true, false, false, false] rfl rfl (take_ofW HT_.out HW_.out (by kernel_rfl)) (fun _ _ _ h => h) (Or.inl ⟨by rfl, ?_⟩) hHeld ?_ ?_
              rotate_left
              · rintro w' ⟨s0, s1, s2, s3, s4, s5, s6, s7, s8, s9⟩
                go_simp
                with_reducible rfl
              rotate_left
              · simp only [Act.put, List.setIfInBounds_toArray, List.set_cons_zero, List.set_cons_succ, i64_w, i32_w]
                rfl
              refine take_ (i := 5) (N := some 63) (v := ?_) (a' := ?_) #[true, true, true, false, true, true, true, false, false, false] rfl rfl (take_ofW HT_.out HW_.out (by kernel_rfl)) (fun _ _ _ h => h) (Or.inl ⟨by rfl, ?_⟩) hHeld ?_ ?_
              rotate_left
              · rintro w' ⟨s0, s1, s2, s3, s4, s5, s6, s7, s8, s9⟩
                go_simp
                with_reducible rfl
              rotate_left
              · simp only [Act.put, List.setIfInBounds_toArray, List.set_cons_zero, List.set_cons_succ, i64_w, i32_w]
                rfl
              refine one_ (i := 3) (N := some 61) #[true, true, true, true, true, true, true, false, false, false] rfl rfl (one_of HT_.out (by kernel_rfl)) (by decide) (fun K hK => ?_)
              refine goes_ Try.func13 (by kernel_rfl) rfl #[.slice A0 l0.length c0, .agg #[.int .i64 a1_0, .int .i64 a1_1, .int .i64 a1_2, .int .u32 a1_3, .int .u32 a1_4, .int .u32 a1_5, .int .u32 a1_6, .int .u32 a1_7, .int .u32 a1_8, .int .u32 a1_9], .int .i64 (wrap64 (Int.tmod a2 512))] (by rfl) rfl rfl (by (try simp only [List.map_toArray, List.map_cons, List.map_nil]); first | done | rfl | (simp only [List.length_drop, List.length_take]; rfl)) ?_
              with_reducible refine (log_Select.calls k2 _ _ l0 a1_0 a1_1 a1_2 a1_3 a1_4 a1_5 a1_6 a1_7 a1_8 a1_9 (wrap64 (Int.tmod a2 512)) t180 _ ?side1 ?side2 A34.out).mono ?_
              (case side1 => repeat (first | exact (Kd.C_below HR0.out HB.out) | (with_reducible refine Kd.C_alloc ?_ _) | (with_reducible refine Kd.C_drewN ?_ _) | (with_reducible refine Kd.C_drew ?_)))
              (case side2 => exact HC0.out)
              rintro e w38 ⟨v181, rfl, ho0, hb⟩
              refine ⟨_, rfl, ?_⟩
              have n0_ := Aside0.mk (Kd.R_lower (Kd.R_newB ho0 (g := gb177) (o := .cells #[.int .i64 a1_0, .int .i64 a1_1, .int .i64 a1_2, .int .u32 a1_3, .int .u32 a1_4, .int .u32 a1_5, .int .u32 a1_6, .int .u32 a1_7, .int .u32 a1_8, .int .u32 a1_9] 25 (0, 0)) (by (with_reducible repeat (first | refine blk_drewN ?_ _ | refine blk_drew ?_ | refine blk_alloc ?_ _)); exact BK177.out)) (below_size (by repeat (first | (with_reducible first | exact HB.out | apply below_alloc | apply pw_below_drewN | apply below_drew1 | refine below_set ?_ GE177.out) | exact HB.out))))
              have n1_ := Aside0.mk (blk_below (g := gb177) (o := .cells #[.int .i64 a1_0, .int .i64 a1_1, .int .i64 a1_2, .int .u32 a1_3, .int .u32 a1_4, .int .u32 a1_5, .int .u32 a1_6, .int .u32 a1_7, .int .u32 a1_8, .int .u32 a1_9] 25 (0, 0)) (by (with_reducible repeat (first | refine blk_drewN ?_ _ | refine blk_drew ?_ | refine blk_alloc ?_ _)); exact BK177.out) hb)
              have n2_ := Aside0.mk (below_step (by repeat (first | (with_reducible first | exact HB.out | apply below_alloc | apply pw_below_drewN | apply below_drew1 | refine below_set ?_ GE177.out) | exact HB.out)) hb)
              clear BK177
              clear HB
              have HO182 := n0_
              have BK177 := n1_
              have HB := n2_
              clear n0_ n1_ n2_
              (try clear hb)
              (try clear hb2)
              (try clear hk)
              (try clear hi)
              (try clear ho0)
              refine hK.out _ _ ⟨(blk_cell BK177.out 0).trans rfl, (blk_cell BK177.out 1).trans rfl, (blk_cell BK177.out 2).trans rfl, (blk_cell BK177.out 3).trans rfl, (blk_cell BK177.out 4).trans rfl, (blk_cell BK177.out 5).trans rfl, (blk_cell BK177.out 6).trans rfl, (blk_cell BK177.out 7).trans rfl, (blk_cell BK177.out 8).trans rfl, (blk_cell BK177.out 9).trans rfl⟩ (fun hHeld => ?_)
              clear hK K
              refine norm_ (a' := ?_) ?_ ?_
              rotate_left
              · show Act.put _ (some 61) _ = _
                simp only [Act.put, List.setIfInBounds_toArray, List.set_cons_zero, List.set_cons_succ, i64_w, i32_w]
                rfl
              refine one_ (i := 7) (N := some 65) #[true, true, true, true, true, true, true, true, false, false] rfl rfl (one_of HT_.out (by kernel_rfl)) (by decide) (fun K hK => ?_)
              refine goes_ Try.func14 (by kernel_rfl) rfl #[.slice A0 l0.length c0, .agg #[.int .i64 a1_0, .int .i64 a1_1, .int .i64 a1_2, .int .u32 a1_3, .int .u32 a1_4, .int .u32 a1_5, .int .u32 a1_6, .int .u32 a1_7, .int .u32 a1_8, .int .u32 a1_9], .int .i64 (wrap64 (Int.tmod a2 512))] (by rfl) rfl rfl (by (try simp only [List.map_toArray, List.map_cons, List.map_nil]); first | done | rfl | (simp only [List.length_drop, List.length_take]; rfl)) ?_
              with_reducible refine (chamberlainref19_Select.calls k2 _ _ l0 a1_0 a1_1 a1_2 a1_3 a1_4 a1_5 a1_6 a1_7 a1_8 a1_9 (wrap64 (Int.tmod a2 512)) t183 _ ?side1 ?side2 A35.out).mono ?_
              (case side1 => repeat (first | exact (Kd.C_below HR0.out HB.out) | (with_reducible refine Kd.C_alloc ?_ _) | (with_reducible refine Kd.C_drewN ?_ _) | (with_reducible refine Kd.C_drew ?_)))
              (case side2 => exact HC0.out)
              rintro e w39 ⟨v184, rfl, ho0, hb⟩
              refine ⟨_, rfl, ?_⟩
              have n0_ := Aside0.mk (Kd.R_elder' (by (with_reducible repeat (first | apply Kd.R_alloc | apply Kd.R_drewN | apply Kd.R_drew)); exact HO182.out) (Kd.R_base ho0) hb)
              have n1_ := Aside0.mk (Kd.R_lower (Kd.R_newB (Kd.R_new' ho0 (Kd.R_lt (by (with_reducible repeat (first | apply Kd.R_alloc | apply Kd.R_drewN | apply Kd.R_drew)); exact HO182.out))) (g := gb177) (o := .cells #[.int .i64 a1_0, .int .i64 a1_1, .int .i64 a1_2, .int .u32 a1_3, .int .u32 a1_4, .int .u32 a1_5, .int .u32 a1_6, .int .u32 a1_7, .int .u32 a1_8, .int .u32 a1_9] 25 (0, 0)) (by (with_reducible repeat (first | refine blk_drewN ?_ _ | refine blk_drew ?_ | refine blk_alloc ?_ _)); exact BK177.out)) (below_size (by repeat (first | (with_reducible first | exact HB.out | apply below_alloc | apply pw_below_drewN | apply below_drew1 | refine below_set ?_ GE177.out) | exact HB.out))))
              have n2_ := Aside0.mk (blk_below (g := gb177) (o := .cells #[.int .i64 a1_0, .int .i64 a1_1, .int .i64 a1_2, .int .u32 a1_3, .int .u32 a1_4, .int .u32 a1_5, .int .u32 a1_6, .int .u32 a1_7, .int .u32 a1_8, .int .u32 a1_9] 25 (0, 0)) (by (with_reducible repeat (first | refine blk_drewN ?_ _ | refine blk_drew ?_ | refine blk_alloc ?_ _)); exact BK177.out) hb)
              have n3_ := Aside0.mk (below_step (by repeat (first | (with_reducible first | exact HB.out | apply below_alloc | apply pw_below_drewN | apply below_drew1 | refine below_set ?_ GE177.out) | exact HB.out)) hb)
              clear HO182
              clear BK177
              clear HB
              have HO182 := n0_
              have HO185 := n1_
              have BK177 := n2_
              have HB := n3_
              clear n0_ n1_ n2_ n3_
              (try clear hb)
              (try clear hb2)
              (try clear hk)
              (try clear hi)
              (try clear ho0)
              obtain ⟨Ao40, co40, eo40⟩ := Kd.R_slice HO182.out
              (first | subst eo40 | (injection eo40 with f1_ f2_ f3_; have f4_ := f1_.symm; have f5_ := f3_.symm; clear f1_ f2_ f3_; subst f4_; subst f5_))
              obtain ⟨Ao41, co41, eo41⟩ := Kd.R_slice HO185.out
              (first | subst eo41 | (injection eo41 with f1_ f2_ f3_; have f4_ := f1_.symm; have f5_ := f3_.symm; clear f1_ f2_ f3_; subst f4_; subst f5_))
              refine hK.out _ _ ⟨(blk_cell BK177.out 0).trans rfl, (blk_cell BK177.out 1).trans rfl, (blk_cell BK177.out 2).trans rfl, (blk_cell BK177.out 3).trans rfl, (blk_cell BK177.out 4).trans rfl, (blk_cell BK177.out 5).trans rfl, (blk_cell BK177.out 6).trans rfl, (blk_cell BK177.out 7).trans rfl, (blk_cell BK177.out 8).trans rfl, (blk_cell BK177.out 9).trans rfl⟩ (fun hHeld => ?_)
              clear hK K
              refine norm_ (a' := ?_) ?_ ?_
              rotate_left
              · show Act.put _ (some 65) _ = _
                simp only [Act.put, List.setIfInBounds_toArray, List.set_cons_zero, List.set_cons_succ, i64_w, i32_w]
                rfl
              refine one_ (i := 8) (N := some 66) #[true, true, true, true, true, true, true, true, true, false] rfl rfl (one_of HT_.out (by kernel_rfl)) (by decide) (fun K hK => ?_)
              refine goes_ Try.func12 (by kernel_rfl) rfl #[.slice Ao40 t180.length co40, .slice Ao41 t183.length co41] (by rfl) rfl rfl (by (try simp only [List.map_toArray, List.map_cons, List.map_nil]); first | done | rfl | (simp only [List.length_drop, List.length_take]; rfl)) ?_
              with_reducible refine (chamberlainref12_Events.calls k2 _ _ t180 _ _ t183 t186 _ ?side1 ?side2 ?side3 ?side4 A36.out).mono ?_
              (case side1 => repeat (first | exact (Kd.R_reads' HO182.out).2.2 | (with_reducible refine Kd.C_alloc ?_ _) | (with_reducible refine Kd.C_drewN ?_ _) | (with_reducible refine Kd.C_drew ?_)))
              (case side2 => exact (Kd.R_reads' HO182.out).2.1)
              (case side3 => repeat (first | exact (Kd.R_reads' HO185.out).2.2 | (with_reducible refine Kd.C_alloc ?_ _) | (with_reducible refine Kd.C_drewN ?_ _) | (with_reducible refine Kd.C_drew ?_)))
              (case side4 => exact (Kd.R_reads' HO185.out).2.1)
              rintro e w' ⟨rfl, ⟨nd, rfl⟩⟩
              refine ⟨_, rfl, ?_⟩
              refine hK.out _ _ ⟨(blk_cell BK177.out 0).trans rfl, (blk_cell BK177.out 1).trans rfl, (blk_cell BK177.out 2).trans rfl, (blk_cell BK177.out 3).trans rfl, (blk_cell BK177.out 4).trans rfl, (blk_cell BK177.out 5).trans rfl, (blk_cell BK177.out 6).trans rfl, (blk_cell BK177.out 7).trans rfl, (blk_cell BK177.out 8).trans rfl, (blk_cell BK177.out 9).trans rfl⟩ (fun hHeld => ?_)
              clear hK K
              refine norm_ (a' := ?_) ?_ ?_
              rotate_left
              · show Act.put _ (some 66) _ = _
                simp only [Act.put, List.setIfInBounds_toArray, List.set_cons_zero, List.set_cons_succ, i64_w, i32_w]
                rfl
              refine pure_ (i := 9) (N := some 6) (v := ?_) (a' := ?_) #[true, true, true, true, true, true, true, true, true, true] rfl rfl (any_of HT_.out (by kernel_rfl)) (fun _ _ _ h => h) (Or.inl ⟨by rfl, ?_⟩) ?_ ?_
              rotate_left
              · intro w'
                go_simp
                with_reducible rfl
              rotate_left
              · simp only [Act.put, List.setIfInBounds_toArray, List.set_cons_zero, List.set_cons_succ, i64_w, i32_w]
                rfl
              refine done_ (done_of HT_.out (by kernel_rfl)) ?_
              try go_wp2
              go_ret
              exact ⟨by first | rfl | (simp [errW_none, errW_some] <;> rfl) | (simp [*, errW_none, errW_some] <;> rfl), by repeat (first | (with_reducible first | exact HB.out | apply below_alloc | apply pw_below_drewN | apply below_drew1 | refine below_set ?_ GE177.out) | exact HB.out)⟩

end Go.Proofs.Ytmmpiblmggkghaa.PLogSelects
