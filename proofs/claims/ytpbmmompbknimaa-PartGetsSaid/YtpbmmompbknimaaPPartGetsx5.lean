-- Written for this claim by wip/tools/myprint.py (print.py's forms; proofs of the faked functions by hand).
import Derived.Test.YtpbmmompbknimaaPPartGetsx0
import Derived.Test.YtpbmmompbknimaaPPartGetsx4
namespace Go.Proofs.Ytpbmmompbknimaa.PPartGets
open Go.RowKit Go.Proofs.YtpbmmompbknimaaW.PrintWords Go.Proofs.YtpbmmompbknimaaW.PrintLast Go.Proofs.YtpbmmompbknimaaW.PrintMore
attribute [local go_sem] max2_int min2_int max_two min_two max_three min_three max_four min_four   -- for this text's walks alone
set_option linter.unusedVariables false
set_option linter.unusedSimpArgs false

/-! ### chamberlainref11_Get: function 16 -/
mutual
def chamberlainref11_Get.j0 : Nat → Int → List Int → Bool → Option (Int × Int × Int × Int × Int × Int × Int × Int)
  | 0, _, _, _ => none
  | k + 1, x0, x1, x11 => if x11 = true then (some (0, 0, 0, 0, 0, 0, 0, 1)) else ((chamberlainref11_words.f k x0 0 0 0 0 0 0 0).bind fun t182 => (if (x1.length : Int) = (t182.length : Int) then (if x0 = 2 then (if 0 < (x1.length : Int) then (if 1 < (x1.length : Int) then (if 2 < (x1.length : Int) then (if 3 < (x1.length : Int) then (if 4 < (x1.length : Int) then (some (rd x1 0, 0, 0, rd x1 1, rd x1 2, rd x1 3, rd x1 4, 0)) else (none)) else (none)) else (none)) else (none)) else (none)) else (if x0 = 3 then (if 0 < (x1.length : Int) then (if 1 < (x1.length : Int) then (if 2 < (x1.length : Int) then (some (0, 0, rd x1 1, 0, rd x1 0, rd x1 2, 0, 0)) else (none)) else (none)) else (none)) else (if x0 = 4 then (chamberlainref11_Get.j1 k x1 x0 (x0 == 4)) else (chamberlainref11_Get.j1 k x1 x0 (x0 == 5))))) else (some (0, 0, 0, 0, 0, 0, 0, 2))))
def chamberlainref11_Get.j1 : Nat → List Int → Int → Bool → Option (Int × Int × Int × Int × Int × Int × Int × Int)
  | 0, _, _, _ => none
  | k + 1, x1, x21, x52 => if x52 = true then (if 0 < (x1.length : Int) then (some (rd x1 0, 0, 0, 0, 0, 0, 0, 0)) else (none)) else (if x21 = 6 then (if 0 < (x1.length : Int) then (if 1 < (x1.length : Int) then (if 2 < (x1.length : Int) then (if 3 < (x1.length : Int) then (some (rd x1 0, rd x1 1, rd x1 2, rd x1 3, 0, 0, 0, 0)) else (none)) else (none)) else (none)) else (none)) else (if x21 = 7 then (if 0 < (x1.length : Int) then (if 1 < (x1.length : Int) then (if 2 < (x1.length : Int) then (if 3 < (x1.length : Int) then (some (rd x1 0, rd x1 1, rd x1 2, rd x1 3, 0, 0, 0, 0)) else (none)) else (none)) else (none)) else (none)) else (if 0 < (x1.length : Int) then (if 1 < (x1.length : Int) then (some (rd x1 0, 0, 0, 0, rd x1 1, 0, 0, 0)) else (none)) else (none))))
end
def chamberlainref11_Get.f (k : Nat) (a0 : Int) (l1 : List Int) : Option (Int × Int × Int × Int × Int × Int × Int × Int) := if a0 < 2 then (chamberlainref11_Get.j0 k a0 l1 true) else (chamberlainref11_Get.j0 k a0 l1 (decide (a0 > 9)))
theorem chamberlainref11_Get.mono_l : ∀ k, (∀ y0 y1 y2, LeO (chamberlainref11_Get.j0 k y0 y1 y2) (chamberlainref11_Get.j0 (k + 1) y0 y1 y2)) ∧ (∀ y0 y1 y2, LeO (chamberlainref11_Get.j1 k y0 y1 y2) (chamberlainref11_Get.j1 (k + 1) y0 y1 y2))
  | 0 => ⟨fun _ _ _ r h => by simp [chamberlainref11_Get.j0] at h, fun _ _ _ r h => by simp [chamberlainref11_Get.j1] at h⟩
  | k + 1 => by
    obtain ⟨ih0, ih1⟩ := chamberlainref11_Get.mono_l k
    refine ⟨?_, ?_⟩
    · intro y0 y1 y2
      unfold chamberlainref11_Get.j0
      repeat' first
      | (with_reducible exact ih0 _ _ _)
      | (with_reducible exact ih1 _ _ _)
      | (with_reducible exact chamberlainref11_words.mono _ _ _ _ _ _ _ _ _)
      | (with_reducible exact LeO.refl _)
      | (with_reducible exact LeO.none _)
      | (with_reducible refine LeO.ite ?_ ?_)
      | (with_reducible refine LeO.bind ?_ (fun _ => ?_))
      | exact ih0 _ _ _
      | exact ih1 _ _ _
      | exact chamberlainref11_words.mono _ _ _ _ _ _ _ _ _
      | exact LeO.none _
      | refine LeO.ite ?_ ?_
      | refine LeO.bind ?_ (fun _ => ?_)
    · intro y0 y1 y2
      unfold chamberlainref11_Get.j1
      repeat' first
      | (with_reducible exact ih0 _ _ _)
      | (with_reducible exact ih1 _ _ _)
      | (with_reducible exact chamberlainref11_words.mono _ _ _ _ _ _ _ _ _)
      | (with_reducible exact LeO.refl _)
      | (with_reducible exact LeO.none _)
      | (with_reducible refine LeO.ite ?_ ?_)
      | (with_reducible refine LeO.bind ?_ (fun _ => ?_))
      | exact ih0 _ _ _
      | exact ih1 _ _ _
      | exact chamberlainref11_words.mono _ _ _ _ _ _ _ _ _
      | exact LeO.none _
      | refine LeO.ite ?_ ?_
      | refine LeO.bind ?_ (fun _ => ?_)
theorem chamberlainref11_Get.mono : ∀ a0 a1 k, LeO (chamberlainref11_Get.f k a0 a1) (chamberlainref11_Get.f (k + 1) a0 a1) := by
  intro a0 a1 k
  obtain ⟨ih0, ih1⟩ := chamberlainref11_Get.mono_l k
  unfold chamberlainref11_Get.f
  repeat' first
      | (with_reducible exact ih0 _ _ _)
      | (with_reducible exact ih1 _ _ _)
      | (with_reducible exact chamberlainref11_words.mono _ _ _ _ _ _ _ _ _)
      | (with_reducible exact LeO.refl _)
      | (with_reducible exact LeO.none _)
      | (with_reducible refine LeO.ite ?_ ?_)
      | (with_reducible refine LeO.bind ?_ (fun _ => ?_))
      | exact ih0 _ _ _
      | exact ih1 _ _ _
      | exact chamberlainref11_words.mono _ _ _ _ _ _ _ _ _
      | exact LeO.none _
      | refine LeO.ite ?_ ?_
      | refine LeO.bind ?_ (fun _ => ?_)
def chamberlainref11_Get.T7 : Bool × List (List Nat × List Nat) := (true, [([], []), ([0], [0]), ([1], [1]), ([], []), ([3], [3]), ([4], [4]), ([], []), ([6], [6]), ([7], [7]), ([], []), ([9], [9]), ([10], [10]), ([], []), ([12], [12]), ([13], [13]), ([2, 5, 8, 11, 14], [2, 5, 8, 11, 14]), ([15, 0, 1, 2, 3, 4, 5, 6, 7, 8, 9, 10, 11, 12, 13, 14, 15], [15]), ([16, 0, 1, 2, 3, 4, 5, 6, 7, 8, 9, 10, 11, 12, 13, 14, 15, 16], [])])
def chamberlainref11_Get.B7 : List Nat := [0, 1, 3, 0, 8, 24, 0, 64, 192, 0, 512, 1536, 0, 4096, 12288, 32767, 65535, 131071]
theorem chamberlainref11_Get.tab7 : rtab .any (opsOf Try.f16 7) = chamberlainref11_Get.T7 := by kernel_rfl
theorem chamberlainref11_Get.bits7 : waitsOk chamberlainref11_Get.T7.2 chamberlainref11_Get.B7 = true := by kernel_rfl
def chamberlainref11_Get.T9 : Bool × List (List Nat × List Nat) := (true, [([], []), ([0], [0]), ([1], [1]), ([], []), ([3], [3]), ([4], [4]), ([], []), ([6], [6]), ([7], [7]), ([2, 5, 8], [2, 5, 8]), ([9, 0, 1, 2, 3, 4, 5, 6, 7, 8, 9], [9]), ([10, 0, 1, 2, 3, 4, 5, 6, 7, 8, 9, 10], [])])
def chamberlainref11_Get.B9 : List Nat := [0, 1, 3, 0, 8, 24, 0, 64, 192, 511, 1023, 2047]
theorem chamberlainref11_Get.tab9 : rtab .any (opsOf Try.f16 9) = chamberlainref11_Get.T9 := by kernel_rfl
theorem chamberlainref11_Get.bits9 : waitsOk chamberlainref11_Get.T9.2 chamberlainref11_Get.B9 = true := by kernel_rfl
def chamberlainref11_Get.T15 : Bool × List (List Nat × List Nat) := (true, [([], []), ([0], [0]), ([1], [1]), ([], []), ([3], [3]), ([4], [4]), ([], []), ([6], [6]), ([7], [7]), ([], []), ([9], [9]), ([10], [10]), ([2, 5, 8, 11], [2, 5, 8, 11]), ([12, 0, 1, 2, 3, 4, 5, 6, 7, 8, 9, 10, 11, 12], [12]), ([13, 0, 1, 2, 3, 4, 5, 6, 7, 8, 9, 10, 11, 12, 13], [])])
def chamberlainref11_Get.B15 : List Nat := [0, 1, 3, 0, 8, 24, 0, 64, 192, 0, 512, 1536, 4095, 8191, 16383]
theorem chamberlainref11_Get.tab15 : rtab .any (opsOf Try.f16 15) = chamberlainref11_Get.T15 := by kernel_rfl
theorem chamberlainref11_Get.bits15 : waitsOk chamberlainref11_Get.T15.2 chamberlainref11_Get.B15 = true := by kernel_rfl
def chamberlainref11_Get.T16 : Bool × List (List Nat × List Nat) := (true, [([], []), ([0], [0]), ([1], [1]), ([], []), ([3], [3]), ([4], [4]), ([2, 5], [2, 5]), ([6, 0, 1, 2, 3, 4, 5, 6], [6]), ([7, 0, 1, 2, 3, 4, 5, 6, 7], [])])
def chamberlainref11_Get.B16 : List Nat := [0, 1, 3, 0, 8, 24, 63, 127, 255]
theorem chamberlainref11_Get.tab16 : rtab .any (opsOf Try.f16 16) = chamberlainref11_Get.T16 := by kernel_rfl
theorem chamberlainref11_Get.bits16 : waitsOk chamberlainref11_Get.T16.2 chamberlainref11_Get.B16 = true := by kernel_rfl
set_option maxHeartbeats 8000000 in
set_option maxRecDepth 100000 in
theorem chamberlainref11_Get.calls (k : Nat) (a0 : Int) (A1 : Option Addr) (c1 : Nat) (l1 : List Int) (r1 : Int) (r2 : Int) (r3 : Int) (r4 : Int) (r5 : Int) (r6 : Int) (r7 : Int) (r8 : Int) (w : World) (hr1 : Kd.C (Kd.int .u32) w A1 l1.length l1) (hc1 : l1.length ≤ c1) (h : chamberlainref11_Get.f k a0 l1 = some (r1, r2, r3, r4, r5, r6, r7, r8)) :
    Calls Try.prog 16 #[.int .u32 a0, .slice A1 l1.length c1] w fun e w' => e = .returned (.tuple #[.agg #[.int .u32 r1, .int .u32 r2, .int .u32 r3, .int .u32 r4, .int .u32 r5, .int .u32 r6, .int .u32 r7], .int .i64 r8]) ∧ Below w.heap.size w w' := by
  have hu24 := Try.underlying24
  have HR1 := Aside0.mk hr1
  have HC1 := Aside0.mk hc1
  clear hr1 hc1
  have HB := Aside0.mk (Below.refl w.heap.size w)
  have H : (if a0 < 2 then (chamberlainref11_Get.j0 k a0 l1 true) else (chamberlainref11_Get.j0 k a0 l1 (decide (a0 > 9)))) = some (r1, r2, r3, r4, r5, r6, r7, r8) := h
  clear h
  have HC3 := Aside0.mk H
  clear H
  go_enter Try.func16, Try.ntmps16
  go_upto_region 1 with (first | ((with_reducible refine gate_dst (N := 4) rfl ?_); refine box_event ?hg (N := 4) ?hd (cs := #[.int .u32 0, .int .u32 0, .int .u32 0, .int .u32 0, .int .u32 0, .int .u32 0, .int .u32 0]) (t := 24) ?hr ?_; (case hd => rfl); (case hg => rfl); (case hr => first | (go_simp; done) | (go_simp; rfl)); intro gb181 hg w4 hbox hb; have n0_ := Aside0.mk (below_step (by repeat (first | (with_reducible first | exact HB.out | apply below_alloc | apply pw_below_drewN | apply below_drew1) | exact HB.out)) hb); have n1_ := Aside0.mk (hbox); have n2_ := Aside0.mk ((by rw [hg]; exact (below_size (by repeat (first | (with_reducible first | exact HB.out | apply below_alloc | apply pw_below_drewN | apply below_drew1) | exact HB.out))) : w.heap.size ≤ gb181)); have n3_ := Aside0.mk ((by rw [hg]; exact (below_size (by repeat (first | (with_reducible first | exact HB.out | apply below_alloc | apply pw_below_drewN | apply below_drew1) | exact HB.out))) : w.heap.size ≤ gb181)); clear HB; have HB := n0_; have BK181 := n1_; have GW181 := n2_; have GE181 := n3_; clear n0_ n1_ n2_ n3_; clear hb hbox hg))
  (try simp only [Act.put, List.setIfInBounds_toArray, List.set_cons_zero, List.set_cons_succ])
  go_cut [11] (fun v11 wc => ∃ (kq : Nat) (x11_2 : Bool), v11 = .bool x11_2 ∧ Aside0 (chamberlainref11_Get.j0 kq a0 l1 x11_2 = some (r1, r2, r3, r4, r5, r6, r7, r8)) ∧ Aside0 (kq ≤ k) ∧ Aside0 (wc.heap[gb181]? = some (.cells #[.int .u32 0, .int .u32 0, .int .u32 0, .int .u32 0, .int .u32 0, .int .u32 0, .int .u32 0] 24 (0, 0))) ∧ Aside0 (Below w.heap.size w wc))
  case first =>
    have H := HC3.out
    clear HC3
    by_cases c5 : a0 < 2
    · rw [if_pos c5] at H
      have c5b0 : decide (a0 < 2) = true := decide_eq_true c5
      clear c5
      (first | rw [c5b0] | (simp only [i64_w, i32_w]; rw [c5b0]) | skip)
      have H' := Aside0.mk H
      clear H
      go_wp2
      go_meet
      case rel => exact ⟨_, (true), (by first | rfl | (simp; done) | (simp [*]; done)), H', ⟨by first | omega | exact Nat.le_refl _⟩, ⟨by (with_reducible repeat (first | refine blk_drewN ?_ _ | refine blk_drew ?_ | refine blk_alloc ?_ _)); exact BK181.out⟩, ⟨by repeat (first | (with_reducible first | exact HB.out | apply below_alloc | apply pw_below_drewN | apply below_drew1 | refine below_set ?_ GE181.out) | exact HB.out)⟩⟩
    · rw [if_neg c5] at H
      have c5b0 : decide (a0 < 2) = false := decide_eq_false c5
      clear c5
      (first | rw [c5b0] | (simp only [i64_w, i32_w]; rw [c5b0]) | skip)
      have H' := Aside0.mk H
      clear H
      go_wp2
      go_meet
      case rel => exact ⟨_, (decide (a0 > 9)), (by first | rfl | (simp; done) | (simp [*]; done)), H', ⟨by first | omega | exact Nat.le_refl _⟩, ⟨by (with_reducible repeat (first | refine blk_drewN ?_ _ | refine blk_drew ?_ | refine blk_alloc ?_ _)); exact BK181.out⟩, ⟨by repeat (first | (with_reducible first | exact HB.out | apply below_alloc | apply pw_below_drewN | apply below_drew1 | refine below_set ?_ GE181.out) | exact HB.out)⟩⟩
  case rest =>
    clear HC3
    try clear c1
    try clear p2
    try clear c5
    try clear c5b0
    obtain ⟨kq, x11_2, rfl, HA, HJ2, BK181, HB⟩ := hcut
    cases kq with
    | zero => exact absurd HA.out (by simp [chamberlainref11_Get.j0])
    | succ kj2 =>
      have H := HA.out
      clear HA
      simp only [chamberlainref11_Get.j0] at H
      by_cases c6 : x11_2 = true
      · subst c6
        have H1 : (some (0, 0, 0, 0, 0, 0, 0, 1)) = some (r1, r2, r3, r4, r5, r6, r7, r8) := by rw [if_pos rfl] at H; exact H
        clear H
        have H := H1
        clear H1
        simp only [Option.some.injEq, Prod.mk.injEq] at H
        obtain ⟨rfl, rfl, rfl, rfl, rfl, rfl, rfl, rfl⟩ := H
        have hcz7_0 : wc.cell? ⟨gb181, 0, none⟩ = some (.int .u32 0) := (blk_cell BK181.out 0).trans rfl
        have hcz7_1 : wc.cell? ⟨gb181, 1, none⟩ = some (.int .u32 0) := (blk_cell BK181.out 1).trans rfl
        have hcz7_2 : wc.cell? ⟨gb181, 2, none⟩ = some (.int .u32 0) := (blk_cell BK181.out 2).trans rfl
        have hcz7_3 : wc.cell? ⟨gb181, 3, none⟩ = some (.int .u32 0) := (blk_cell BK181.out 3).trans rfl
        have hcz7_4 : wc.cell? ⟨gb181, 4, none⟩ = some (.int .u32 0) := (blk_cell BK181.out 4).trans rfl
        have hcz7_5 : wc.cell? ⟨gb181, 5, none⟩ = some (.int .u32 0) := (blk_cell BK181.out 5).trans rfl
        have hcz7_6 : wc.cell? ⟨gb181, 6, none⟩ = some (.int .u32 0) := (blk_cell BK181.out 6).trans rfl
        have hfz7_0 := blk_frozen BK181.out 0
        have hfz7_1 := blk_frozen BK181.out 1
        have hfz7_2 := blk_frozen BK181.out 2
        have hfz7_3 := blk_frozen BK181.out 3
        have hfz7_4 := blk_frozen BK181.out 4
        have hfz7_5 := blk_frozen BK181.out 5
        have hfz7_6 := blk_frozen BK181.out 6
        go_wp2
        refine bodyPost_ret (results_ct rfl _ _ gb181 24 #[.int .u32 0, .int .u32 0, .int .u32 0, .int .u32 0, .int .u32 0, .int .u32 0, .int .u32 0] (0, 0) _ rfl (by (with_reducible repeat (first | refine blk_drewN ?_ _ | refine blk_drew ?_ | refine blk_alloc ?_ _)); refine blk_put (cs := #[.int .u32 0, .int .u32 0, .int .u32 0, .int .u32 0, .int .u32 0, .int .u32 0, .int .u32 0]) ?_ 6 _ rfl; (with_reducible repeat (first | refine blk_drewN ?_ _ | refine blk_drew ?_ | refine blk_alloc ?_ _)); refine blk_put (cs := #[.int .u32 0, .int .u32 0, .int .u32 0, .int .u32 0, .int .u32 0, .int .u32 0, .int .u32 0]) ?_ 5 _ rfl; (with_reducible repeat (first | refine blk_drewN ?_ _ | refine blk_drew ?_ | refine blk_alloc ?_ _)); refine blk_put (cs := #[.int .u32 0, .int .u32 0, .int .u32 0, .int .u32 0, .int .u32 0, .int .u32 0, .int .u32 0]) ?_ 4 _ rfl; (with_reducible repeat (first | refine blk_drewN ?_ _ | refine blk_drew ?_ | refine blk_alloc ?_ _)); refine blk_put (cs := #[.int .u32 0, .int .u32 0, .int .u32 0, .int .u32 0, .int .u32 0, .int .u32 0, .int .u32 0]) ?_ 3 _ rfl; (with_reducible repeat (first | refine blk_drewN ?_ _ | refine blk_drew ?_ | refine blk_alloc ?_ _)); refine blk_put (cs := #[.int .u32 0, .int .u32 0, .int .u32 0, .int .u32 0, .int .u32 0, .int .u32 0, .int .u32 0]) ?_ 2 _ rfl; (with_reducible repeat (first | refine blk_drewN ?_ _ | refine blk_drew ?_ | refine blk_alloc ?_ _)); refine blk_put (cs := #[.int .u32 0, .int .u32 0, .int .u32 0, .int .u32 0, .int .u32 0, .int .u32 0, .int .u32 0]) ?_ 1 _ rfl; (with_reducible repeat (first | refine blk_drewN ?_ _ | refine blk_drew ?_ | refine blk_alloc ?_ _)); refine blk_put (cs := #[.int .u32 0, .int .u32 0, .int .u32 0, .int .u32 0, .int .u32 0, .int .u32 0, .int .u32 0]) ?_ 0 _ rfl; (with_reducible repeat (first | refine blk_drewN ?_ _ | refine blk_drew ?_ | refine blk_alloc ?_ _)); exact BK181.out) Try.underlying24 rfl (by kernel_rfl)) rfl ?_
        exact ⟨by first | rfl | (simp [errW_none, errW_some] <;> rfl) | (simp [*, errW_none, errW_some] <;> rfl), by repeat (first | (with_reducible first | exact HB.out | apply below_alloc | apply pw_below_drewN | apply below_drew1 | refine below_set ?_ GE181.out) | exact HB.out)⟩
      · replace c6 := Bool.eq_false_iff.mpr c6
        subst c6
        have H1 : ((chamberlainref11_words.f kj2 a0 0 0 0 0 0 0 0).bind fun t182 => (if (l1.length : Int) = (t182.length : Int) then (if a0 = 2 then (if 0 < (l1.length : Int) then (if 1 < (l1.length : Int) then (if 2 < (l1.length : Int) then (if 3 < (l1.length : Int) then (if 4 < (l1.length : Int) then (some (rd l1 0, 0, 0, rd l1 1, rd l1 2, rd l1 3, rd l1 4, 0)) else (none)) else (none)) else (none)) else (none)) else (none)) else (if a0 = 3 then (if 0 < (l1.length : Int) then (if 1 < (l1.length : Int) then (if 2 < (l1.length : Int) then (some (0, 0, rd l1 1, 0, rd l1 0, rd l1 2, 0, 0)) else (none)) else (none)) else (none)) else (if a0 = 4 then (chamberlainref11_Get.j1 kj2 l1 a0 (a0 == 4)) else (chamberlainref11_Get.j1 kj2 l1 a0 (a0 == 5))))) else (some (0, 0, 0, 0, 0, 0, 0, 2)))) = some (r1, r2, r3, r4, r5, r6, r7, r8) := by rw [if_neg (show ¬ (false = true) by decide)] at H; exact H
        clear H
        have H := H1
        clear H1
        replace H := Option.bind_eq_some_iff.mp H
        obtain ⟨t182, A80, H⟩ := H
        replace H : (if (l1.length : Int) = (t182.length : Int) then (if a0 = 2 then (if 0 < (l1.length : Int) then (if 1 < (l1.length : Int) then (if 2 < (l1.length : Int) then (if 3 < (l1.length : Int) then (if 4 < (l1.length : Int) then (some (rd l1 0, 0, 0, rd l1 1, rd l1 2, rd l1 3, rd l1 4, 0)) else (none)) else (none)) else (none)) else (none)) else (none)) else (if a0 = 3 then (if 0 < (l1.length : Int) then (if 1 < (l1.length : Int) then (if 2 < (l1.length : Int) then (some (0, 0, rd l1 1, 0, rd l1 0, rd l1 2, 0, 0)) else (none)) else (none)) else (none)) else (if a0 = 4 then (chamberlainref11_Get.j1 kj2 l1 a0 (a0 == 4)) else (chamberlainref11_Get.j1 kj2 l1 a0 (a0 == 5))))) else (some (0, 0, 0, 0, 0, 0, 0, 2))) = some (r1, r2, r3, r4, r5, r6, r7, r8) := H
        have A8 := Aside0.mk A80
        clear A80
        by_cases c9 : (l1.length : Int) = (t182.length : Int)
        · rw [if_pos c9] at H
          have c9b0 : ((l1.length : Int) == (t182.length : Int)) = true := beq_iff_eq.mpr c9
          have c9b1 : ((l1.length : Int) != (t182.length : Int)) = false := bne_eq_false_iff_eq.mpr c9
          have c9b2 : (l1.length == t182.length) = true := by first | simpa using c9 | (simp at c9 ⊢; omega)
          clear c9
          by_cases c10 : a0 = 2
          · rw [if_pos c10] at H
            have c10b0 : (a0 == 2) = true := beq_iff_eq.mpr c10
            have c10b1 : (a0 != 2) = false := bne_eq_false_iff_eq.mpr c10
            clear c10
            by_cases c11 : 0 < (l1.length : Int)
            · rw [if_pos c11] at H
              have c11b0 : decide (0 < (l1.length : Int)) = true := decide_eq_true c11
              have c11b1 : decide (0 < l1.length) = true := decide_eq_true (by omega)
              clear c11
              by_cases c12 : 1 < (l1.length : Int)
              · rw [if_pos c12] at H
                have c12b0 : decide (1 < (l1.length : Int)) = true := decide_eq_true c12
                have c12b1 : decide (1 < l1.length) = true := decide_eq_true (by omega)
                clear c12
                by_cases c13 : 2 < (l1.length : Int)
                · rw [if_pos c13] at H
                  have c13b0 : decide (2 < (l1.length : Int)) = true := decide_eq_true c13
                  have c13b1 : decide (2 < l1.length) = true := decide_eq_true (by omega)
                  clear c13
                  by_cases c14 : 3 < (l1.length : Int)
                  · rw [if_pos c14] at H
                    have c14b0 : decide (3 < (l1.length : Int)) = true := decide_eq_true c14
                    have c14b1 : decide (3 < l1.length) = true := decide_eq_true (by omega)
                    clear c14
                    by_cases c15 : 4 < (l1.length : Int)
                    · rw [if_pos c15] at H
                      have c15b0 : decide (4 < (l1.length : Int)) = true := decide_eq_true c15
                      have c15b1 : decide (4 < l1.length) = true := decide_eq_true (by omega)
                      clear c15
                      simp only [Option.some.injEq, Prod.mk.injEq] at H
                      obtain ⟨rfl, rfl, rfl, rfl, rfl, rfl, rfl, rfl⟩ := H
                      try go_wp2_with (first | ((with_reducible refine gate_callee (f := 18) rfl ?_); refine goesL_ (some 17) rfl rfl Try.func18 (by kernel_rfl) rfl #[.int .u32 a0, .agg #[.int .u32 0, .int .u32 0, .int .u32 0, .int .u32 0, .int .u32 0, .int .u32 0, .int .u32 0]] rfl (by (try simp only [List.map_toArray, List.map_cons, List.map_nil]); first | done | rfl | (simp only [List.length_drop, List.length_take]; rfl)) ?_; (with_reducible refine (chamberlainref11_words.calls kj2 a0 0 0 0 0 0 0 0 t182 _ A8.out).mono ?_); rintro e w16 ⟨v183, rfl, ho0, hb⟩; refine ⟨_, rfl, ?_⟩; have n0_ := Aside0.mk (Kd.R_lower ho0 (below_size (by repeat (first | (with_reducible first | exact HB.out | apply below_alloc | apply pw_below_drewN | apply below_drew1 | refine below_set ?_ GE181.out) | exact HB.out)))); have n1_ := Aside0.mk (blk_below (g := gb181) (o := .cells #[.int .u32 0, .int .u32 0, .int .u32 0, .int .u32 0, .int .u32 0, .int .u32 0, .int .u32 0] 24 (0, 0)) (by (with_reducible repeat (first | refine blk_drewN ?_ _ | refine blk_drew ?_ | refine blk_alloc ?_ _)); exact BK181.out) hb); have n2_ := Aside0.mk (below_step (by repeat (first | (with_reducible first | exact HB.out | apply below_alloc | apply pw_below_drewN | apply below_drew1 | refine below_set ?_ GE181.out) | exact HB.out)) hb); clear BK181; clear HB; have HO184 := n0_; have BK181 := n1_; have HB := n2_; clear n0_ n1_ n2_; (try clear hb); (try clear hb2); (try clear hk); (try clear hi); (try clear ho0); obtain ⟨Ao17, co17, eo17⟩ := Kd.R_slice HO184.out; subst eo17))
                      have n0_ := Aside0.mk (Kd.R_drew HO184.out)
                      have n1_ := Aside0.mk (blk_drew BK181.out)
                      have n2_ := Aside0.mk (below_drew1 HB.out)
                      clear HO184
                      clear BK181
                      clear HB
                      have HO184 := n0_
                      have BK181 := n1_
                      have HB := n2_
                      clear n0_ n1_ n2_
                      have p185 : 0 ≤ (0 : Int) := (by omega)
                      have q185 : 0 < (l1.length : Int) := of_decide_eq_true (by first | (with_reducible assumption) | assumption)
                      obtain ⟨ad185, e185, hx185_0⟩ := Kd.at_int HR1.out 0 p185 q185
                      have hw185_0 := hx185_0
                      (try rw [show ((0 : Int)).toNat = 0 from rfl] at hw185_0)
                      (try rw [show 0 * 1 = 0 from rfl] at hw185_0)
                      (try rw [Addr.add_zero'] at hw185_0)
                      cases e185
                      have qi185 : (0 < l1.length) = True := eq_true (by omega)
                      (try rw [show ((0 : Int)).toNat = 0 from rfl] at hx185_0)
                      (try rw [Addr.add_zero'] at hx185_0)
                      replace hx185_0 := (HB.out.cell (World.block_lt_of_cell? w _ hx185_0)).trans hx185_0
                      replace p185 := eq_true p185
                      replace q185 := eq_true q185
                      have p186 : 0 ≤ (1 : Int) := (by omega)
                      have q186 : 1 < (l1.length : Int) := of_decide_eq_true (by first | (with_reducible assumption) | assumption)
                      obtain ⟨ad186, e186, hx186_0⟩ := Kd.at_int HR1.out 1 p186 q186
                      have hw186_0 := hx186_0
                      (try rw [show ((1 : Int)).toNat = 1 from rfl] at hw186_0)
                      (try rw [show 1 * 1 = 1 from rfl] at hw186_0)
                      (try simp only [Nat.reduceMul, Nat.reduceEqDiff, Go.Addr.add, ↓reduceIte] at hw186_0)
                      obtain rfl : ad185 = ad186 := (by injection e186)
                      (try simp only [show (1 : Int).toNat = 1 from rfl, Nat.reduceMul, Nat.reduceEqDiff, Go.Addr.add, ↓reduceIte] at hx186_0)
                      have qi186 : (1 < l1.length) = True := eq_true (by omega)
                      (try rw [show ((1 : Int)).toNat = 1 from rfl] at hx186_0)
                      replace hx186_0 := (HB.out.cell (World.block_lt_of_cell? w _ hx186_0)).trans hx186_0
                      replace p186 := eq_true p186
                      replace q186 := eq_true q186
                      have p187 : 0 ≤ (2 : Int) := (by omega)
                      have q187 : 2 < (l1.length : Int) := of_decide_eq_true (by first | (with_reducible assumption) | assumption)
                      obtain ⟨ad187, e187, hx187_0⟩ := Kd.at_int HR1.out 2 p187 q187
                      have hw187_0 := hx187_0
                      (try rw [show ((2 : Int)).toNat = 2 from rfl] at hw187_0)
                      (try rw [show 2 * 1 = 2 from rfl] at hw187_0)
                      (try simp only [Nat.reduceMul, Nat.reduceEqDiff, Go.Addr.add, ↓reduceIte] at hw187_0)
                      obtain rfl : ad185 = ad187 := (by injection e187)
                      (try simp only [show (2 : Int).toNat = 2 from rfl, Nat.reduceMul, Nat.reduceEqDiff, Go.Addr.add, ↓reduceIte] at hx187_0)
                      have qi187 : (2 < l1.length) = True := eq_true (by omega)
                      (try rw [show ((2 : Int)).toNat = 2 from rfl] at hx187_0)
                      replace hx187_0 := (HB.out.cell (World.block_lt_of_cell? w _ hx187_0)).trans hx187_0
                      replace p187 := eq_true p187
                      replace q187 := eq_true q187
                      have p188 : 0 ≤ (3 : Int) := (by omega)
                      have q188 : 3 < (l1.length : Int) := of_decide_eq_true (by first | (with_reducible assumption) | assumption)
                      obtain ⟨ad188, e188, hx188_0⟩ := Kd.at_int HR1.out 3 p188 q188
                      have hw188_0 := hx188_0
                      (try rw [show ((3 : Int)).toNat = 3 from rfl] at hw188_0)
                      (try rw [show 3 * 1 = 3 from rfl] at hw188_0)
                      (try simp only [Nat.reduceMul, Nat.reduceEqDiff, Go.Addr.add, ↓reduceIte] at hw188_0)
                      obtain rfl : ad185 = ad188 := (by injection e188)
                      (try simp only [show (3 : Int).toNat = 3 from rfl, Nat.reduceMul, Nat.reduceEqDiff, Go.Addr.add, ↓reduceIte] at hx188_0)
                      have qi188 : (3 < l1.length) = True := eq_true (by omega)
                      (try rw [show ((3 : Int)).toNat = 3 from rfl] at hx188_0)
                      replace hx188_0 := (HB.out.cell (World.block_lt_of_cell? w _ hx188_0)).trans hx188_0
                      replace p188 := eq_true p188
                      replace q188 := eq_true q188
                      have p189 : 0 ≤ (4 : Int) := (by omega)
                      have q189 : 4 < (l1.length : Int) := of_decide_eq_true (by first | (with_reducible assumption) | assumption)
                      obtain ⟨ad189, e189, hx189_0⟩ := Kd.at_int HR1.out 4 p189 q189
                      have hw189_0 := hx189_0
                      (try rw [show ((4 : Int)).toNat = 4 from rfl] at hw189_0)
                      (try rw [show 4 * 1 = 4 from rfl] at hw189_0)
                      (try simp only [Nat.reduceMul, Nat.reduceEqDiff, Go.Addr.add, ↓reduceIte] at hw189_0)
                      obtain rfl : ad185 = ad189 := (by injection e189)
                      (try simp only [show (4 : Int).toNat = 4 from rfl, Nat.reduceMul, Nat.reduceEqDiff, Go.Addr.add, ↓reduceIte] at hx189_0)
                      have qi189 : (4 < l1.length) = True := eq_true (by omega)
                      (try rw [show ((4 : Int)).toNat = 4 from rfl] at hx189_0)
                      replace hx189_0 := (HB.out.cell (World.block_lt_of_cell? w _ hx189_0)).trans hx189_0
                      replace p189 := eq_true p189
                      replace q189 := eq_true q189
                      refine start_ (n := 18) (S := fun w' => w'.cell? ad185 = some (.int .u32 (rd l1 0)) ∧ w'.cell? ⟨ad185.block, ad185.off + 1, none⟩ = some (.int .u32 (rd l1 1)) ∧ w'.cell? ⟨ad185.block, ad185.off + 2, none⟩ = some (.int .u32 (rd l1 2)) ∧ w'.cell? ⟨ad185.block, ad185.off + 3, none⟩ = some (.int .u32 (rd l1 3)) ∧ w'.cell? ⟨ad185.block, ad185.off + 4, none⟩ = some (.int .u32 (rd l1 4))) (ds := []) #[false, false, false, false, false, false, false, false, false, false, false, false, false, false, false, false, false, false] (by kernel_rfl) rfl rfl ⟨((HB.out.cell (World.block_lt_of_cell? w _ hw185_0)).trans hw185_0), ((HB.out.cell (World.block_lt_of_cell? w _ hw186_0)).trans hw186_0), ((HB.out.cell (World.block_lt_of_cell? w _ hw187_0)).trans hw187_0), ((HB.out.cell (World.block_lt_of_cell? w _ hw188_0)).trans hw188_0), ((HB.out.cell (World.block_lt_of_cell? w _ hw189_0)).trans hw189_0)⟩ (fun hHeld => ?_); refine with_tabW chamberlainref11_Get.tab7 chamberlainref11_Get.bits7 (fun HT_ HW_ => ?_)
                      generalize w16.drew = w18 at HO184 BK181 HB hx185_0 hx186_0 hx187_0 hx188_0 hx189_0 hHeld ⊢
                      refine pure_ (i := 0) (N := some 24) (v := ?_) (a' := ?_) #[true, false, false, false, false, false, false, false, false, false, false, false, false, false, false, false, false, false] rfl rfl (any_of HT_.out (by kernel_rfl)) (fun _ _ _ h => h) (Or.inl ⟨by rfl, ?_⟩) ?_ ?_
                      rotate_left
                      · intro w'
                        go_simp
                        with_reducible rfl
                      rotate_left
                      · simp only [Act.put, List.setIfInBounds_toArray, List.set_cons_zero, List.set_cons_succ, i64_w, i32_w]
                        rfl
                      refine pure_ (i := 1) (N := some 25) (v := ?_) (a' := ?_) #[true, true, false, false, false, false, false, false, false, false, false, false, false, false, false, false, false, false] rfl rfl (any_of HT_.out (by kernel_rfl)) (fun _ _ _ h => h) (Or.inl ⟨by rfl, ?_⟩) ?_ ?_
                      rotate_left
                      · intro w'
                        go_simp
                        with_reducible rfl
                      rotate_left
                      · simp only [Act.put, List.setIfInBounds_toArray, List.set_cons_zero, List.set_cons_succ, i64_w, i32_w]
                        rfl
                      refine pure_ (i := 3) (N := some 27) (v := ?_) (a' := ?_) #[true, true, false, true, false, false, false, false, false, false, false, false, false, false, false, false, false, false] rfl rfl (any_of HT_.out (by kernel_rfl)) (fun _ _ _ h => h) (Or.inl ⟨by rfl, ?_⟩) ?_ ?_
                      rotate_left
                      · intro w'
                        go_simp
                        with_reducible rfl
                      rotate_left
                      · simp only [Act.put, List.setIfInBounds_toArray, List.set_cons_zero, List.set_cons_succ, i64_w, i32_w]
                        rfl
                      refine pure_ (i := 4) (N := some 28) (v := ?_) (a' := ?_) #[true, true, false, true, true, false, false, false, false, false, false, false, false, false, false, false, false, false] rfl rfl (any_of HT_.out (by kernel_rfl)) (fun _ _ _ h => h) (Or.inl ⟨by rfl, ?_⟩) ?_ ?_
                      rotate_left
                      · intro w'
                        go_simp
                        with_reducible rfl
                      rotate_left
                      · simp only [Act.put, List.setIfInBounds_toArray, List.set_cons_zero, List.set_cons_succ, i64_w, i32_w]
                        rfl
                      refine pure_ (i := 6) (N := some 30) (v := ?_) (a' := ?_) #[true, true, false, true, true, false, true, false, false, false, false, false, false, false, false, false, false, false] rfl rfl (any_of HT_.out (by kernel_rfl)) (fun _ _ _ h => h) (Or.inl ⟨by rfl, ?_⟩) ?_ ?_
                      rotate_left
                      · intro w'
                        go_simp
                        with_reducible rfl
                      rotate_left
                      · simp only [Act.put, List.setIfInBounds_toArray, List.set_cons_zero, List.set_cons_succ, i64_w, i32_w]
                        rfl
                      refine pure_ (i := 7) (N := some 31) (v := ?_) (a' := ?_) #[true, true, false, true, true, false, true, true, false, false, false, false, false, false, false, false, false, false] rfl rfl (any_of HT_.out (by kernel_rfl)) (fun _ _ _ h => h) (Or.inl ⟨by rfl, ?_⟩) ?_ ?_
                      rotate_left
                      · intro w'
                        go_simp
                        with_reducible rfl
                      rotate_left
                      · simp only [Act.put, List.setIfInBounds_toArray, List.set_cons_zero, List.set_cons_succ, i64_w, i32_w]
                        rfl
                      refine pure_ (i := 9) (N := some 33) (v := ?_) (a' := ?_) #[true, true, false, true, true, false, true, true, false, true, false, false, false, false, false, false, false, false] rfl rfl (any_of HT_.out (by kernel_rfl)) (fun _ _ _ h => h) (Or.inl ⟨by rfl, ?_⟩) ?_ ?_
                      rotate_left
                      · intro w'
                        go_simp
                        with_reducible rfl
                      rotate_left
                      · simp only [Act.put, List.setIfInBounds_toArray, List.set_cons_zero, List.set_cons_succ, i64_w, i32_w]
                        rfl
                      refine pure_ (i := 10) (N := some 34) (v := ?_) (a' := ?_) #[true, true, false, true, true, false, true, true, false, true, true, false, false, false, false, false, false, false] rfl rfl (any_of HT_.out (by kernel_rfl)) (fun _ _ _ h => h) (Or.inl ⟨by rfl, ?_⟩) ?_ ?_
                      rotate_left
                      · intro w'
                        go_simp
                        with_reducible rfl
                      rotate_left
                      · simp only [Act.put, List.setIfInBounds_toArray, List.set_cons_zero, List.set_cons_succ, i64_w, i32_w]
                        rfl
                      refine pure_ (i := 12) (N := some 36) (v := ?_) (a' := ?_) #[true, true, false, true, true, false, true, true, false, true, true, false, true, false, false, false, false, false] rfl rfl (any_of HT_.out (by kernel_rfl)) (fun _ _ _ h => h) (Or.inl ⟨by rfl, ?_⟩) ?_ ?_
                      rotate_left
                      · intro w'
                        go_simp
                        with_reducible rfl
                      rotate_left
                      · simp only [Act.put, List.setIfInBounds_toArray, List.set_cons_zero, List.set_cons_succ, i64_w, i32_w]
                        rfl
                      refine pure_ (i := 13) (N := some 37) (v := ?_) (a' := ?_) #[true, true, false, true, true, false, true, true, false, true, true, false, true, true, false, false, false, false] rfl rfl (any_of HT_.out (by kernel_rfl)) (fun _ _ _ h => h) (Or.inl ⟨by rfl, ?_⟩) ?_ ?_
                      rotate_left
                      · intro w'
                        go_simp
                        with_reducible rfl
                      rotate_left
                      · simp only [Act.put, List.setIfInBounds_toArray, List.set_cons_zero, List.set_cons_succ, i64_w, i32_w]
                        rfl
                      refine take_ (i := 2) (N := some 26) (v := ?_) (a' := ?_) #[true, true, true, true, true, false, true, true, false, true, true, false, true, true, false, false, false, false] rfl rfl (take_ofW HT_.out HW_.out (by kernel_rfl)) (fun _ _ _ h => h) (Or.inl ⟨by rfl, ?_⟩) hHeld ?_ ?_
                      rotate_left
                      · rintro w' ⟨s0, s1, s2, s3, s4⟩
                        go_simp
                        with_reducible rfl
                      rotate_left
                      · simp only [Act.put, List.setIfInBounds_toArray, List.set_cons_zero, List.set_cons_succ, i64_w, i32_w]
                        rfl
                      refine take_ (i := 5) (N := some 29) (v := ?_) (a' := ?_) #[true, true, true, true, true, true, true, true, false, true, true, false, true, true, false, false, false, false] rfl rfl (take_ofW HT_.out HW_.out (by kernel_rfl)) (fun _ _ _ h => h) (Or.inl ⟨by rfl, ?_⟩) hHeld ?_ ?_
                      rotate_left
                      · rintro w' ⟨s0, s1, s2, s3, s4⟩
                        go_simp
                        with_reducible rfl
                      rotate_left
                      · simp only [Act.put, List.setIfInBounds_toArray, List.set_cons_zero, List.set_cons_succ, i64_w, i32_w]
                        rfl
                      refine take_ (i := 8) (N := some 32) (v := ?_) (a' := ?_) #[true, true, true, true, true, true, true, true, true, true, true, false, true, true, false, false, false, false] rfl rfl (take_ofW HT_.out HW_.out (by kernel_rfl)) (fun _ _ _ h => h) (Or.inl ⟨by rfl, ?_⟩) hHeld ?_ ?_
                      rotate_left
                      · rintro w' ⟨s0, s1, s2, s3, s4⟩
                        go_simp
                        with_reducible rfl
                      rotate_left
                      · simp only [Act.put, List.setIfInBounds_toArray, List.set_cons_zero, List.set_cons_succ, i64_w, i32_w]
                        rfl
                      refine take_ (i := 11) (N := some 35) (v := ?_) (a' := ?_) #[true, true, true, true, true, true, true, true, true, true, true, true, true, true, false, false, false, false] rfl rfl (take_ofW HT_.out HW_.out (by kernel_rfl)) (fun _ _ _ h => h) (Or.inl ⟨by rfl, ?_⟩) hHeld ?_ ?_
                      rotate_left
                      · rintro w' ⟨s0, s1, s2, s3, s4⟩
                        go_simp
                        with_reducible rfl
                      rotate_left
                      · simp only [Act.put, List.setIfInBounds_toArray, List.set_cons_zero, List.set_cons_succ, i64_w, i32_w]
                        rfl
                      refine take_ (i := 14) (N := some 38) (v := ?_) (a' := ?_) #[true, true, true, true, true, true, true, true, true, true, true, true, true, true, true, false, false, false] rfl rfl (take_ofW HT_.out HW_.out (by kernel_rfl)) (fun _ _ _ h => h) (Or.inl ⟨by rfl, ?_⟩) hHeld ?_ ?_
                      rotate_left
                      · rintro w' ⟨s0, s1, s2, s3, s4⟩
                        go_simp
                        with_reducible rfl
                      rotate_left
                      · simp only [Act.put, List.setIfInBounds_toArray, List.set_cons_zero, List.set_cons_succ, i64_w, i32_w]
                        rfl
                      refine pure_ (i := 15) (N := some 39) (v := ?_) (a' := ?_) #[true, true, true, true, true, true, true, true, true, true, true, true, true, true, true, true, false, false] rfl rfl (any_of HT_.out (by kernel_rfl)) (fun _ _ _ h => h) (Or.inl ⟨by rfl, ?_⟩) ?_ ?_
                      rotate_left
                      · intro w'
                        go_simp
                        with_reducible rfl
                      rotate_left
                      · simp only [Act.put, List.setIfInBounds_toArray, List.set_cons_zero, List.set_cons_succ, i64_w, i32_w]
                        rfl
                      refine one_ (i := 16) (N := none) #[true, true, true, true, true, true, true, true, true, true, true, true, true, true, true, true, true, false] rfl rfl (one_of HT_.out (by kernel_rfl)) (by decide) (fun K hK => ?_)
                      have hs19 : w18.cell? ⟨gb181, 0, none⟩ = some (.int .u32 0) := (blk_cell BK181.out 0).trans rfl
                      have hfs19 := blk_frozen BK181.out 0
                      have hs20 : w18.cell? ⟨gb181, 1, none⟩ = some (.int .u32 0) := (blk_cell BK181.out 1).trans rfl
                      have hfs20 := blk_frozen BK181.out 1
                      have hs21 : w18.cell? ⟨gb181, 2, none⟩ = some (.int .u32 0) := (blk_cell BK181.out 2).trans rfl
                      have hfs21 := blk_frozen BK181.out 2
                      have hs22 : w18.cell? ⟨gb181, 3, none⟩ = some (.int .u32 0) := (blk_cell BK181.out 3).trans rfl
                      have hfs22 := blk_frozen BK181.out 3
                      have hs23 : w18.cell? ⟨gb181, 4, none⟩ = some (.int .u32 0) := (blk_cell BK181.out 4).trans rfl
                      have hfs23 := blk_frozen BK181.out 4
                      have hs24 : w18.cell? ⟨gb181, 5, none⟩ = some (.int .u32 0) := (blk_cell BK181.out 5).trans rfl
                      have hfs24 := blk_frozen BK181.out 5
                      have hs25 : w18.cell? ⟨gb181, 6, none⟩ = some (.int .u32 0) := (blk_cell BK181.out 6).trans rfl
                      have hfs25 := blk_frozen BK181.out 6
                      refine skip_ (w1 := ?_) (by rfl) rfl ?_ ?_
                      rotate_left
                      · go_simp
                        rfl
                      refine hK.out _ _ ⟨((cell_far (p := ⟨gb181, _, none⟩) (by first | exact Nat.ne_of_lt (Nat.lt_of_lt_of_le (by have := World.block_lt_of_cell? _ _ hw185_0; first | rwa [add_block] at this | exact this) GW181.out) | (rw [add_block]; exact Nat.ne_of_lt (Nat.lt_of_lt_of_le (by have := World.block_lt_of_cell? _ _ hw185_0; first | rwa [add_block] at this | exact this) GW181.out)) | (show (Addr.add _ _).block ≠ _; rw [add_block]; exact Nat.ne_of_lt (Nat.lt_of_lt_of_le (by have := World.block_lt_of_cell? _ _ hw185_0; first | rwa [add_block] at this | exact this) GW181.out)) | (dsimp only; exact Nat.ne_of_lt (Nat.lt_of_lt_of_le (by have := World.block_lt_of_cell? _ _ hw185_0; first | rwa [add_block] at this | exact this) GW181.out))) _).trans (((cell_far (p := ⟨gb181, _, none⟩) (by first | exact Nat.ne_of_lt (Nat.lt_of_lt_of_le (by have := World.block_lt_of_cell? _ _ hw185_0; first | rwa [add_block] at this | exact this) GW181.out) | (rw [add_block]; exact Nat.ne_of_lt (Nat.lt_of_lt_of_le (by have := World.block_lt_of_cell? _ _ hw185_0; first | rwa [add_block] at this | exact this) GW181.out)) | (show (Addr.add _ _).block ≠ _; rw [add_block]; exact Nat.ne_of_lt (Nat.lt_of_lt_of_le (by have := World.block_lt_of_cell? _ _ hw185_0; first | rwa [add_block] at this | exact this) GW181.out)) | (dsimp only; exact Nat.ne_of_lt (Nat.lt_of_lt_of_le (by have := World.block_lt_of_cell? _ _ hw185_0; first | rwa [add_block] at this | exact this) GW181.out))) _).trans (((cell_far (p := ⟨gb181, _, none⟩) (by first | exact Nat.ne_of_lt (Nat.lt_of_lt_of_le (by have := World.block_lt_of_cell? _ _ hw185_0; first | rwa [add_block] at this | exact this) GW181.out) | (rw [add_block]; exact Nat.ne_of_lt (Nat.lt_of_lt_of_le (by have := World.block_lt_of_cell? _ _ hw185_0; first | rwa [add_block] at this | exact this) GW181.out)) | (show (Addr.add _ _).block ≠ _; rw [add_block]; exact Nat.ne_of_lt (Nat.lt_of_lt_of_le (by have := World.block_lt_of_cell? _ _ hw185_0; first | rwa [add_block] at this | exact this) GW181.out)) | (dsimp only; exact Nat.ne_of_lt (Nat.lt_of_lt_of_le (by have := World.block_lt_of_cell? _ _ hw185_0; first | rwa [add_block] at this | exact this) GW181.out))) _).trans (((cell_far (p := ⟨gb181, _, none⟩) (by first | exact Nat.ne_of_lt (Nat.lt_of_lt_of_le (by have := World.block_lt_of_cell? _ _ hw185_0; first | rwa [add_block] at this | exact this) GW181.out) | (rw [add_block]; exact Nat.ne_of_lt (Nat.lt_of_lt_of_le (by have := World.block_lt_of_cell? _ _ hw185_0; first | rwa [add_block] at this | exact this) GW181.out)) | (show (Addr.add _ _).block ≠ _; rw [add_block]; exact Nat.ne_of_lt (Nat.lt_of_lt_of_le (by have := World.block_lt_of_cell? _ _ hw185_0; first | rwa [add_block] at this | exact this) GW181.out)) | (dsimp only; exact Nat.ne_of_lt (Nat.lt_of_lt_of_le (by have := World.block_lt_of_cell? _ _ hw185_0; first | rwa [add_block] at this | exact this) GW181.out))) _).trans (((cell_far (p := ⟨gb181, _, none⟩) (by first | exact Nat.ne_of_lt (Nat.lt_of_lt_of_le (by have := World.block_lt_of_cell? _ _ hw185_0; first | rwa [add_block] at this | exact this) GW181.out) | (rw [add_block]; exact Nat.ne_of_lt (Nat.lt_of_lt_of_le (by have := World.block_lt_of_cell? _ _ hw185_0; first | rwa [add_block] at this | exact this) GW181.out)) | (show (Addr.add _ _).block ≠ _; rw [add_block]; exact Nat.ne_of_lt (Nat.lt_of_lt_of_le (by have := World.block_lt_of_cell? _ _ hw185_0; first | rwa [add_block] at this | exact this) GW181.out)) | (dsimp only; exact Nat.ne_of_lt (Nat.lt_of_lt_of_le (by have := World.block_lt_of_cell? _ _ hw185_0; first | rwa [add_block] at this | exact this) GW181.out))) _).trans (((cell_far (p := ⟨gb181, _, none⟩) (by first | exact Nat.ne_of_lt (Nat.lt_of_lt_of_le (by have := World.block_lt_of_cell? _ _ hw185_0; first | rwa [add_block] at this | exact this) GW181.out) | (rw [add_block]; exact Nat.ne_of_lt (Nat.lt_of_lt_of_le (by have := World.block_lt_of_cell? _ _ hw185_0; first | rwa [add_block] at this | exact this) GW181.out)) | (show (Addr.add _ _).block ≠ _; rw [add_block]; exact Nat.ne_of_lt (Nat.lt_of_lt_of_le (by have := World.block_lt_of_cell? _ _ hw185_0; first | rwa [add_block] at this | exact this) GW181.out)) | (dsimp only; exact Nat.ne_of_lt (Nat.lt_of_lt_of_le (by have := World.block_lt_of_cell? _ _ hw185_0; first | rwa [add_block] at this | exact this) GW181.out))) _).trans (((cell_far (p := ⟨gb181, _, none⟩) (by first | exact Nat.ne_of_lt (Nat.lt_of_lt_of_le (by have := World.block_lt_of_cell? _ _ hw185_0; first | rwa [add_block] at this | exact this) GW181.out) | (rw [add_block]; exact Nat.ne_of_lt (Nat.lt_of_lt_of_le (by have := World.block_lt_of_cell? _ _ hw185_0; first | rwa [add_block] at this | exact this) GW181.out)) | (show (Addr.add _ _).block ≠ _; rw [add_block]; exact Nat.ne_of_lt (Nat.lt_of_lt_of_le (by have := World.block_lt_of_cell? _ _ hw185_0; first | rwa [add_block] at this | exact this) GW181.out)) | (dsimp only; exact Nat.ne_of_lt (Nat.lt_of_lt_of_le (by have := World.block_lt_of_cell? _ _ hw185_0; first | rwa [add_block] at this | exact this) GW181.out))) _).trans (hHeld.1)))))))))))))), ((cell_far (p := ⟨gb181, _, none⟩) (by first | exact Nat.ne_of_lt (Nat.lt_of_lt_of_le (by have := World.block_lt_of_cell? _ _ hw186_0; first | rwa [add_block] at this | exact this) GW181.out) | (rw [add_block]; exact Nat.ne_of_lt (Nat.lt_of_lt_of_le (by have := World.block_lt_of_cell? _ _ hw186_0; first | rwa [add_block] at this | exact this) GW181.out)) | (show (Addr.add _ _).block ≠ _; rw [add_block]; exact Nat.ne_of_lt (Nat.lt_of_lt_of_le (by have := World.block_lt_of_cell? _ _ hw186_0; first | rwa [add_block] at this | exact this) GW181.out)) | (dsimp only; exact Nat.ne_of_lt (Nat.lt_of_lt_of_le (by have := World.block_lt_of_cell? _ _ hw186_0; first | rwa [add_block] at this | exact this) GW181.out))) _).trans (((cell_far (p := ⟨gb181, _, none⟩) (by first | exact Nat.ne_of_lt (Nat.lt_of_lt_of_le (by have := World.block_lt_of_cell? _ _ hw186_0; first | rwa [add_block] at this | exact this) GW181.out) | (rw [add_block]; exact Nat.ne_of_lt (Nat.lt_of_lt_of_le (by have := World.block_lt_of_cell? _ _ hw186_0; first | rwa [add_block] at this | exact this) GW181.out)) | (show (Addr.add _ _).block ≠ _; rw [add_block]; exact Nat.ne_of_lt (Nat.lt_of_lt_of_le (by have := World.block_lt_of_cell? _ _ hw186_0; first | rwa [add_block] at this | exact this) GW181.out)) | (dsimp only; exact Nat.ne_of_lt (Nat.lt_of_lt_of_le (by have := World.block_lt_of_cell? _ _ hw186_0; first | rwa [add_block] at this | exact this) GW181.out))) _).trans (((cell_far (p := ⟨gb181, _, none⟩) (by first | exact Nat.ne_of_lt (Nat.lt_of_lt_of_le (by have := World.block_lt_of_cell? _ _ hw186_0; first | rwa [add_block] at this | exact this) GW181.out) | (rw [add_block]; exact Nat.ne_of_lt (Nat.lt_of_lt_of_le (by have := World.block_lt_of_cell? _ _ hw186_0; first | rwa [add_block] at this | exact this) GW181.out)) | (show (Addr.add _ _).block ≠ _; rw [add_block]; exact Nat.ne_of_lt (Nat.lt_of_lt_of_le (by have := World.block_lt_of_cell? _ _ hw186_0; first | rwa [add_block] at this | exact this) GW181.out)) | (dsimp only; exact Nat.ne_of_lt (Nat.lt_of_lt_of_le (by have := World.block_lt_of_cell? _ _ hw186_0; first | rwa [add_block] at this | exact this) GW181.out))) _).trans (((cell_far (p := ⟨gb181, _, none⟩) (by first | exact Nat.ne_of_lt (Nat.lt_of_lt_of_le (by have := World.block_lt_of_cell? _ _ hw186_0; first | rwa [add_block] at this | exact this) GW181.out) | (rw [add_block]; exact Nat.ne_of_lt (Nat.lt_of_lt_of_le (by have := World.block_lt_of_cell? _ _ hw186_0; first | rwa [add_block] at this | exact this) GW181.out)) | (show (Addr.add _ _).block ≠ _; rw [add_block]; exact Nat.ne_of_lt (Nat.lt_of_lt_of_le (by have := World.block_lt_of_cell? _ _ hw186_0; first | rwa [add_block] at this | exact this) GW181.out)) | (dsimp only; exact Nat.ne_of_lt (Nat.lt_of_lt_of_le (by have := World.block_lt_of_cell? _ _ hw186_0; first | rwa [add_block] at this | exact this) GW181.out))) _).trans (((cell_far (p := ⟨gb181, _, none⟩) (by first | exact Nat.ne_of_lt (Nat.lt_of_lt_of_le (by have := World.block_lt_of_cell? _ _ hw186_0; first | rwa [add_block] at this | exact this) GW181.out) | (rw [add_block]; exact Nat.ne_of_lt (Nat.lt_of_lt_of_le (by have := World.block_lt_of_cell? _ _ hw186_0; first | rwa [add_block] at this | exact this) GW181.out)) | (show (Addr.add _ _).block ≠ _; rw [add_block]; exact Nat.ne_of_lt (Nat.lt_of_lt_of_le (by have := World.block_lt_of_cell? _ _ hw186_0; first | rwa [add_block] at this | exact this) GW181.out)) | (dsimp only; exact Nat.ne_of_lt (Nat.lt_of_lt_of_le (by have := World.block_lt_of_cell? _ _ hw186_0; first | rwa [add_block] at this | exact this) GW181.out))) _).trans (((cell_far (p := ⟨gb181, _, none⟩) (by first | exact Nat.ne_of_lt (Nat.lt_of_lt_of_le (by have := World.block_lt_of_cell? _ _ hw186_0; first | rwa [add_block] at this | exact this) GW181.out) | (rw [add_block]; exact Nat.ne_of_lt (Nat.lt_of_lt_of_le (by have := World.block_lt_of_cell? _ _ hw186_0; first | rwa [add_block] at this | exact this) GW181.out)) | (show (Addr.add _ _).block ≠ _; rw [add_block]; exact Nat.ne_of_lt (Nat.lt_of_lt_of_le (by have := World.block_lt_of_cell? _ _ hw186_0; first | rwa [add_block] at this | exact this) GW181.out)) | (dsimp only; exact Nat.ne_of_lt (Nat.lt_of_lt_of_le (by have := World.block_lt_of_cell? _ _ hw186_0; first | rwa [add_block] at this | exact this) GW181.out))) _).trans (((cell_far (p := ⟨gb181, _, none⟩) (by first | exact Nat.ne_of_lt (Nat.lt_of_lt_of_le (by have := World.block_lt_of_cell? _ _ hw186_0; first | rwa [add_block] at this | exact this) GW181.out) | (rw [add_block]; exact Nat.ne_of_lt (Nat.lt_of_lt_of_le (by have := World.block_lt_of_cell? _ _ hw186_0; first | rwa [add_block] at this | exact this) GW181.out)) | (show (Addr.add _ _).block ≠ _; rw [add_block]; exact Nat.ne_of_lt (Nat.lt_of_lt_of_le (by have := World.block_lt_of_cell? _ _ hw186_0; first | rwa [add_block] at this | exact this) GW181.out)) | (dsimp only; exact Nat.ne_of_lt (Nat.lt_of_lt_of_le (by have := World.block_lt_of_cell? _ _ hw186_0; first | rwa [add_block] at this | exact this) GW181.out))) _).trans (hHeld.2.1)))))))))))))), ((cell_far (p := ⟨gb181, _, none⟩) (by first | exact Nat.ne_of_lt (Nat.lt_of_lt_of_le (by have := World.block_lt_of_cell? _ _ hw187_0; first | rwa [add_block] at this | exact this) GW181.out) | (rw [add_block]; exact Nat.ne_of_lt (Nat.lt_of_lt_of_le (by have := World.block_lt_of_cell? _ _ hw187_0; first | rwa [add_block] at this | exact this) GW181.out)) | (show (Addr.add _ _).block ≠ _; rw [add_block]; exact Nat.ne_of_lt (Nat.lt_of_lt_of_le (by have := World.block_lt_of_cell? _ _ hw187_0; first | rwa [add_block] at this | exact this) GW181.out)) | (dsimp only; exact Nat.ne_of_lt (Nat.lt_of_lt_of_le (by have := World.block_lt_of_cell? _ _ hw187_0; first | rwa [add_block] at this | exact this) GW181.out))) _).trans (((cell_far (p := ⟨gb181, _, none⟩) (by first | exact Nat.ne_of_lt (Nat.lt_of_lt_of_le (by have := World.block_lt_of_cell? _ _ hw187_0; first | rwa [add_block] at this | exact this) GW181.out) | (rw [add_block]; exact Nat.ne_of_lt (Nat.lt_of_lt_of_le (by have := World.block_lt_of_cell? _ _ hw187_0; first | rwa [add_block] at this | exact this) GW181.out)) | (show (Addr.add _ _).block ≠ _; rw [add_block]; exact Nat.ne_of_lt (Nat.lt_of_lt_of_le (by have := World.block_lt_of_cell? _ _ hw187_0; first | rwa [add_block] at this | exact this) GW181.out)) | (dsimp only; exact Nat.ne_of_lt (Nat.lt_of_lt_of_le (by have := World.block_lt_of_cell? _ _ hw187_0; first | rwa [add_block] at this | exact this) GW181.out))) _).trans (((cell_far (p := ⟨gb181, _, none⟩) (by first | exact Nat.ne_of_lt (Nat.lt_of_lt_of_le (by have := World.block_lt_of_cell? _ _ hw187_0; first | rwa [add_block] at this | exact this) GW181.out) | (rw [add_block]; exact Nat.ne_of_lt (Nat.lt_of_lt_of_le (by have := World.block_lt_of_cell? _ _ hw187_0; first | rwa [add_block] at this | exact this) GW181.out)) | (show (Addr.add _ _).block ≠ _; rw [add_block]; exact Nat.ne_of_lt (Nat.lt_of_lt_of_le (by have := World.block_lt_of_cell? _ _ hw187_0; first | rwa [add_block] at this | exact this) GW181.out)) | (dsimp only; exact Nat.ne_of_lt (Nat.lt_of_lt_of_le (by have := World.block_lt_of_cell? _ _ hw187_0; first | rwa [add_block] at this | exact this) GW181.out))) _).trans (((cell_far (p := ⟨gb181, _, none⟩) (by first | exact Nat.ne_of_lt (Nat.lt_of_lt_of_le (by have := World.block_lt_of_cell? _ _ hw187_0; first | rwa [add_block] at this | exact this) GW181.out) | (rw [add_block]; exact Nat.ne_of_lt (Nat.lt_of_lt_of_le (by have := World.block_lt_of_cell? _ _ hw187_0; first | rwa [add_block] at this | exact this) GW181.out)) | (show (Addr.add _ _).block ≠ _; rw [add_block]; exact Nat.ne_of_lt (Nat.lt_of_lt_of_le (by have := World.block_lt_of_cell? _ _ hw187_0; first | rwa [add_block] at this | exact this) GW181.out)) | (dsimp only; exact Nat.ne_of_lt (Nat.lt_of_lt_of_le (by have := World.block_lt_of_cell? _ _ hw187_0; first | rwa [add_block] at this | exact this) GW181.out))) _).trans (((cell_far (p := ⟨gb181, _, none⟩) (by first | exact Nat.ne_of_lt (Nat.lt_of_lt_of_le (by have := World.block_lt_of_cell? _ _ hw187_0; first | rwa [add_block] at this | exact this) GW181.out) | (rw [add_block]; exact Nat.ne_of_lt (Nat.lt_of_lt_of_le (by have := World.block_lt_of_cell? _ _ hw187_0; first | rwa [add_block] at this | exact this) GW181.out)) | (show (Addr.add _ _).block ≠ _; rw [add_block]; exact Nat.ne_of_lt (Nat.lt_of_lt_of_le (by have := World.block_lt_of_cell? _ _ hw187_0; first | rwa [add_block] at this | exact this) GW181.out)) | (dsimp only; exact Nat.ne_of_lt (Nat.lt_of_lt_of_le (by have := World.block_lt_of_cell? _ _ hw187_0; first | rwa [add_block] at this | exact this) GW181.out))) _).trans (((cell_far (p := ⟨gb181, _, none⟩) (by first | exact Nat.ne_of_lt (Nat.lt_of_lt_of_le (by have := World.block_lt_of_cell? _ _ hw187_0; first | rwa [add_block] at this | exact this) GW181.out) | (rw [add_block]; exact Nat.ne_of_lt (Nat.lt_of_lt_of_le (by have := World.block_lt_of_cell? _ _ hw187_0; first | rwa [add_block] at this | exact this) GW181.out)) | (show (Addr.add _ _).block ≠ _; rw [add_block]; exact Nat.ne_of_lt (Nat.lt_of_lt_of_le (by have := World.block_lt_of_cell? _ _ hw187_0; first | rwa [add_block] at this | exact this) GW181.out)) | (dsimp only; exact Nat.ne_of_lt (Nat.lt_of_lt_of_le (by have := World.block_lt_of_cell? _ _ hw187_0; first | rwa [add_block] at this | exact this) GW181.out))) _).trans (((cell_far (p := ⟨gb181, _, none⟩) (by first | exact Nat.ne_of_lt (Nat.lt_of_lt_of_le (by have := World.block_lt_of_cell? _ _ hw187_0; first | rwa [add_block] at this | exact this) GW181.out) | (rw [add_block]; exact Nat.ne_of_lt (Nat.lt_of_lt_of_le (by have := World.block_lt_of_cell? _ _ hw187_0; first | rwa [add_block] at this | exact this) GW181.out)) | (show (Addr.add _ _).block ≠ _; rw [add_block]; exact Nat.ne_of_lt (Nat.lt_of_lt_of_le (by have := World.block_lt_of_cell? _ _ hw187_0; first | rwa [add_block] at this | exact this) GW181.out)) | (dsimp only; exact Nat.ne_of_lt (Nat.lt_of_lt_of_le (by have := World.block_lt_of_cell? _ _ hw187_0; first | rwa [add_block] at this | exact this) GW181.out))) _).trans (hHeld.2.2.1)))))))))))))), ((cell_far (p := ⟨gb181, _, none⟩) (by first | exact Nat.ne_of_lt (Nat.lt_of_lt_of_le (by have := World.block_lt_of_cell? _ _ hw188_0; first | rwa [add_block] at this | exact this) GW181.out) | (rw [add_block]; exact Nat.ne_of_lt (Nat.lt_of_lt_of_le (by have := World.block_lt_of_cell? _ _ hw188_0; first | rwa [add_block] at this | exact this) GW181.out)) | (show (Addr.add _ _).block ≠ _; rw [add_block]; exact Nat.ne_of_lt (Nat.lt_of_lt_of_le (by have := World.block_lt_of_cell? _ _ hw188_0; first | rwa [add_block] at this | exact this) GW181.out)) | (dsimp only; exact Nat.ne_of_lt (Nat.lt_of_lt_of_le (by have := World.block_lt_of_cell? _ _ hw188_0; first | rwa [add_block] at this | exact this) GW181.out))) _).trans (((cell_far (p := ⟨gb181, _, none⟩) (by first | exact Nat.ne_of_lt (Nat.lt_of_lt_of_le (by have := World.block_lt_of_cell? _ _ hw188_0; first | rwa [add_block] at this | exact this) GW181.out) | (rw [add_block]; exact Nat.ne_of_lt (Nat.lt_of_lt_of_le (by have := World.block_lt_of_cell? _ _ hw188_0; first | rwa [add_block] at this | exact this) GW181.out)) | (show (Addr.add _ _).block ≠ _; rw [add_block]; exact Nat.ne_of_lt (Nat.lt_of_lt_of_le (by have := World.block_lt_of_cell? _ _ hw188_0; first | rwa [add_block] at this | exact this) GW181.out)) | (dsimp only; exact Nat.ne_of_lt (Nat.lt_of_lt_of_le (by have := World.block_lt_of_cell? _ _ hw188_0; first | rwa [add_block] at this | exact this) GW181.out))) _).trans (((cell_far (p := ⟨gb181, _, none⟩) (by first | exact Nat.ne_of_lt (Nat.lt_of_lt_of_le (by have := World.block_lt_of_cell? _ _ hw188_0; first | rwa [add_block] at this | exact this) GW181.out) | (rw [add_block]; exact Nat.ne_of_lt (Nat.lt_of_lt_of_le (by have := World.block_lt_of_cell? _ _ hw188_0; first | rwa [add_block] at this | exact this) GW181.out)) | (show (Addr.add _ _).block ≠ _; rw [add_block]; exact Nat.ne_of_lt (Nat.lt_of_lt_of_le (by have := World.block_lt_of_cell? _ _ hw188_0; first | rwa [add_block] at this | exact this) GW181.out)) | (dsimp only; exact Nat.ne_of_lt (Nat.lt_of_lt_of_le (by have := World.block_lt_of_cell? _ _ hw188_0; first | rwa [add_block] at this | exact this) GW181.out))) _).trans (((cell_far (p := ⟨gb181, _, none⟩) (by first | exact Nat.ne_of_lt (Nat.lt_of_lt_of_le (by have := World.block_lt_of_cell? _ _ hw188_0; first | rwa [add_block] at this | exact this) GW181.out) | (rw [add_block]; exact Nat.ne_of_lt (Nat.lt_of_lt_of_le (by have := World.block_lt_of_cell? _ _ hw188_0; first | rwa [add_block] at this | exact this) GW181.out)) | (show (Addr.add _ _).block ≠ _; rw [add_block]; exact Nat.ne_of_lt (Nat.lt_of_lt_of_le (by have := World.block_lt_of_cell? _ _ hw188_0; first | rwa [add_block] at this | exact this) GW181.out)) | (dsimp only; exact Nat.ne_of_lt (Nat.lt_of_lt_of_le (by have := World.block_lt_of_cell? _ _ hw188_0; first | rwa [add_block] at this | exact this) GW181.out))) _).trans (((cell_far (p := ⟨gb181, _, none⟩) (by first | exact Nat.ne_of_lt (Nat.lt_of_lt_of_le (by have := World.block_lt_of_cell? _ _ hw188_0; first | rwa [add_block] at this | exact this) GW181.out) | (rw [add_block]; exact Nat.ne_of_lt (Nat.lt_of_lt_of_le (by have := World.block_lt_of_cell? _ _ hw188_0; first | rwa [add_block] at this | exact this) GW181.out)) | (show (Addr.add _ _).block ≠ _; rw [add_block]; exact Nat.ne_of_lt (Nat.lt_of_lt_of_le (by have := World.block_lt_of_cell? _ _ hw188_0; first | rwa [add_block] at this | exact this) GW181.out)) | (dsimp only; exact Nat.ne_of_lt (Nat.lt_of_lt_of_le (by have := World.block_lt_of_cell? _ _ hw188_0; first | rwa [add_block] at this | exact this) GW181.out))) _).trans (((cell_far (p := ⟨gb181, _, none⟩) (by first | exact Nat.ne_of_lt (Nat.lt_of_lt_of_le (by have := World.block_lt_of_cell? _ _ hw188_0; first | rwa [add_block] at this | exact this) GW181.out) | (rw [add_block]; exact Nat.ne_of_lt (Nat.lt_of_lt_of_le (by have := World.block_lt_of_cell? _ _ hw188_0; first | rwa [add_block] at this | exact this) GW181.out)) | (show (Addr.add _ _).block ≠ _; rw [add_block]; exact Nat.ne_of_lt (Nat.lt_of_lt_of_le (by have := World.block_lt_of_cell? _ _ hw188_0; first | rwa [add_block] at this | exact this) GW181.out)) | (dsimp only; exact Nat.ne_of_lt (Nat.lt_of_lt_of_le (by have := World.block_lt_of_cell? _ _ hw188_0; first | rwa [add_block] at this | exact this) GW181.out))) _).trans (((cell_far (p := ⟨gb181, _, none⟩) (by first | exact Nat.ne_of_lt (Nat.lt_of_lt_of_le (by have := World.block_lt_of_cell? _ _ hw188_0; first | rwa [add_block] at this | exact this) GW181.out) | (rw [add_block]; exact Nat.ne_of_lt (Nat.lt_of_lt_of_le (by have := World.block_lt_of_cell? _ _ hw188_0; first | rwa [add_block] at this | exact this) GW181.out)) | (show (Addr.add _ _).block ≠ _; rw [add_block]; exact Nat.ne_of_lt (Nat.lt_of_lt_of_le (by have := World.block_lt_of_cell? _ _ hw188_0; first | rwa [add_block] at this | exact this) GW181.out)) | (dsimp only; exact Nat.ne_of_lt (Nat.lt_of_lt_of_le (by have := World.block_lt_of_cell? _ _ hw188_0; first | rwa [add_block] at this | exact this) GW181.out))) _).trans (hHeld.2.2.2.1)))))))))))))), ((cell_far (p := ⟨gb181, _, none⟩) (by first | exact Nat.ne_of_lt (Nat.lt_of_lt_of_le (by have := World.block_lt_of_cell? _ _ hw189_0; first | rwa [add_block] at this | exact this) GW181.out) | (rw [add_block]; exact Nat.ne_of_lt (Nat.lt_of_lt_of_le (by have := World.block_lt_of_cell? _ _ hw189_0; first | rwa [add_block] at this | exact this) GW181.out)) | (show (Addr.add _ _).block ≠ _; rw [add_block]; exact Nat.ne_of_lt (Nat.lt_of_lt_of_le (by have := World.block_lt_of_cell? _ _ hw189_0; first | rwa [add_block] at this | exact this) GW181.out)) | (dsimp only; exact Nat.ne_of_lt (Nat.lt_of_lt_of_le (by have := World.block_lt_of_cell? _ _ hw189_0; first | rwa [add_block] at this | exact this) GW181.out))) _).trans (((cell_far (p := ⟨gb181, _, none⟩) (by first | exact Nat.ne_of_lt (Nat.lt_of_lt_of_le (by have := World.block_lt_of_cell? _ _ hw189_0; first | rwa [add_block] at this | exact this) GW181.out) | (rw [add_block]; exact Nat.ne_of_lt (Nat.lt_of_lt_of_le (by have := World.block_lt_of_cell? _ _ hw189_0; first | rwa [add_block] at this | exact this) GW181.out)) | (show (Addr.add _ _).block ≠ _; rw [add_block]; exact Nat.ne_of_lt (Nat.lt_of_lt_of_le (by have := World.block_lt_of_cell? _ _ hw189_0; first | rwa [add_block] at this | exact this) GW181.out)) | (dsimp only; exact Nat.ne_of_lt (Nat.lt_of_lt_of_le (by have := World.block_lt_of_cell? _ _ hw189_0; first | rwa [add_block] at this | exact this) GW181.out))) _).trans (((cell_far (p := ⟨gb181, _, none⟩) (by first | exact Nat.ne_of_lt (Nat.lt_of_lt_of_le (by have := World.block_lt_of_cell? _ _ hw189_0; first | rwa [add_block] at this | exact this) GW181.out) | (rw [add_block]; exact Nat.ne_of_lt (Nat.lt_of_lt_of_le (by have := World.block_lt_of_cell? _ _ hw189_0; first | rwa [add_block] at this | exact this) GW181.out)) | (show (Addr.add _ _).block ≠ _; rw [add_block]; exact Nat.ne_of_lt (Nat.lt_of_lt_of_le (by have := World.block_lt_of_cell? _ _ hw189_0; first | rwa [add_block] at this | exact this) GW181.out)) | (dsimp only; exact Nat.ne_of_lt (Nat.lt_of_lt_of_le (by have := World.block_lt_of_cell? _ _ hw189_0; first | rwa [add_block] at this | exact this) GW181.out))) _).trans (((cell_far (p := ⟨gb181, _, none⟩) (by first | exact Nat.ne_of_lt (Nat.lt_of_lt_of_le (by have := World.block_lt_of_cell? _ _ hw189_0; first | rwa [add_block] at this | exact this) GW181.out) | (rw [add_block]; exact Nat.ne_of_lt (Nat.lt_of_lt_of_le (by have := World.block_lt_of_cell? _ _ hw189_0; first | rwa [add_block] at this | exact this) GW181.out)) | (show (Addr.add _ _).block ≠ _; rw [add_block]; exact Nat.ne_of_lt (Nat.lt_of_lt_of_le (by have := World.block_lt_of_cell? _ _ hw189_0; first | rwa [add_block] at this | exact this) GW181.out)) | (dsimp only; exact Nat.ne_of_lt (Nat.lt_of_lt_of_le (by have := World.block_lt_of_cell? _ _ hw189_0; first | rwa [add_block] at this | exact this) GW181.out))) _).trans (((cell_far (p := ⟨gb181, _, none⟩) (by first | exact Nat.ne_of_lt (Nat.lt_of_lt_of_le (by have := World.block_lt_of_cell? _ _ hw189_0; first | rwa [add_block] at this | exact this) GW181.out) | (rw [add_block]; exact Nat.ne_of_lt (Nat.lt_of_lt_of_le (by have := World.block_lt_of_cell? _ _ hw189_0; first | rwa [add_block] at this | exact this) GW181.out)) | (show (Addr.add _ _).block ≠ _; rw [add_block]; exact Nat.ne_of_lt (Nat.lt_of_lt_of_le (by have := World.block_lt_of_cell? _ _ hw189_0; first | rwa [add_block] at this | exact this) GW181.out)) | (dsimp only; exact Nat.ne_of_lt (Nat.lt_of_lt_of_le (by have := World.block_lt_of_cell? _ _ hw189_0; first | rwa [add_block] at this | exact this) GW181.out))) _).trans (((cell_far (p := ⟨gb181, _, none⟩) (by first | exact Nat.ne_of_lt (Nat.lt_of_lt_of_le (by have := World.block_lt_of_cell? _ _ hw189_0; first | rwa [add_block] at this | exact this) GW181.out) | (rw [add_block]; exact Nat.ne_of_lt (Nat.lt_of_lt_of_le (by have := World.block_lt_of_cell? _ _ hw189_0; first | rwa [add_block] at this | exact this) GW181.out)) | (show (Addr.add _ _).block ≠ _; rw [add_block]; exact Nat.ne_of_lt (Nat.lt_of_lt_of_le (by have := World.block_lt_of_cell? _ _ hw189_0; first | rwa [add_block] at this | exact this) GW181.out)) | (dsimp only; exact Nat.ne_of_lt (Nat.lt_of_lt_of_le (by have := World.block_lt_of_cell? _ _ hw189_0; first | rwa [add_block] at this | exact this) GW181.out))) _).trans (((cell_far (p := ⟨gb181, _, none⟩) (by first | exact Nat.ne_of_lt (Nat.lt_of_lt_of_le (by have := World.block_lt_of_cell? _ _ hw189_0; first | rwa [add_block] at this | exact this) GW181.out) | (rw [add_block]; exact Nat.ne_of_lt (Nat.lt_of_lt_of_le (by have := World.block_lt_of_cell? _ _ hw189_0; first | rwa [add_block] at this | exact this) GW181.out)) | (show (Addr.add _ _).block ≠ _; rw [add_block]; exact Nat.ne_of_lt (Nat.lt_of_lt_of_le (by have := World.block_lt_of_cell? _ _ hw189_0; first | rwa [add_block] at this | exact this) GW181.out)) | (dsimp only; exact Nat.ne_of_lt (Nat.lt_of_lt_of_le (by have := World.block_lt_of_cell? _ _ hw189_0; first | rwa [add_block] at this | exact this) GW181.out))) _).trans (hHeld.2.2.2.2))))))))))))))⟩ (fun hHeld => ?_)
                      clear hK K
                      refine pure_ (i := 17) (N := some 5) (v := ?_) (a' := ?_) #[true, true, true, true, true, true, true, true, true, true, true, true, true, true, true, true, true, true] rfl rfl (any_of HT_.out (by kernel_rfl)) (fun _ _ _ h => h) (Or.inl ⟨by rfl, ?_⟩) ?_ ?_
                      rotate_left
                      · intro w'
                        go_simp
                        with_reducible rfl
                      rotate_left
                      · simp only [Act.put, List.setIfInBounds_toArray, List.set_cons_zero, List.set_cons_succ, i64_w, i32_w]
                        rfl
                      refine done_ (done_of HT_.out (by kernel_rfl)) ?_
                      try go_wp2
                      refine bodyPost_ret (results_ct rfl _ _ gb181 24 #[.int .u32 (rd l1 0), .int .u32 0, .int .u32 0, .int .u32 (rd l1 1), .int .u32 (rd l1 2), .int .u32 (rd l1 3), .int .u32 (rd l1 4)] (0, 0) _ rfl (by (with_reducible repeat (first | refine blk_drewN ?_ _ | refine blk_drew ?_ | refine blk_alloc ?_ _)); refine blk_put (cs := #[.int .u32 (rd l1 0), .int .u32 0, .int .u32 0, .int .u32 (rd l1 1), .int .u32 (rd l1 2), .int .u32 (rd l1 3), .int .u32 0]) ?_ 6 _ rfl; (with_reducible repeat (first | refine blk_drewN ?_ _ | refine blk_drew ?_ | refine blk_alloc ?_ _)); refine blk_put (cs := #[.int .u32 (rd l1 0), .int .u32 0, .int .u32 0, .int .u32 (rd l1 1), .int .u32 (rd l1 2), .int .u32 0, .int .u32 0]) ?_ 5 _ rfl; (with_reducible repeat (first | refine blk_drewN ?_ _ | refine blk_drew ?_ | refine blk_alloc ?_ _)); refine blk_put (cs := #[.int .u32 (rd l1 0), .int .u32 0, .int .u32 0, .int .u32 (rd l1 1), .int .u32 0, .int .u32 0, .int .u32 0]) ?_ 4 _ rfl; (with_reducible repeat (first | refine blk_drewN ?_ _ | refine blk_drew ?_ | refine blk_alloc ?_ _)); refine blk_put (cs := #[.int .u32 (rd l1 0), .int .u32 0, .int .u32 0, .int .u32 0, .int .u32 0, .int .u32 0, .int .u32 0]) ?_ 3 _ rfl; (with_reducible repeat (first | refine blk_drewN ?_ _ | refine blk_drew ?_ | refine blk_alloc ?_ _)); refine blk_put (cs := #[.int .u32 (rd l1 0), .int .u32 0, .int .u32 0, .int .u32 0, .int .u32 0, .int .u32 0, .int .u32 0]) ?_ 2 _ rfl; (with_reducible repeat (first | refine blk_drewN ?_ _ | refine blk_drew ?_ | refine blk_alloc ?_ _)); refine blk_put (cs := #[.int .u32 (rd l1 0), .int .u32 0, .int .u32 0, .int .u32 0, .int .u32 0, .int .u32 0, .int .u32 0]) ?_ 1 _ rfl; (with_reducible repeat (first | refine blk_drewN ?_ _ | refine blk_drew ?_ | refine blk_alloc ?_ _)); refine blk_put (cs := #[.int .u32 0, .int .u32 0, .int .u32 0, .int .u32 0, .int .u32 0, .int .u32 0, .int .u32 0]) ?_ 0 _ rfl; (with_reducible repeat (first | refine blk_drewN ?_ _ | refine blk_drew ?_ | refine blk_alloc ?_ _)); exact BK181.out) Try.underlying24 rfl (by kernel_rfl)) rfl ?_
                      exact ⟨by first | rfl | (simp [errW_none, errW_some] <;> rfl) | (simp [*, errW_none, errW_some] <;> rfl), by repeat (first | (with_reducible first | exact HB.out | apply below_alloc | apply pw_below_drewN | apply below_drew1 | refine below_set ?_ GE181.out) | exact HB.out)⟩
                    · rw [if_neg c15] at H
                      exact absurd H (by simp)
                  · rw [if_neg c14] at H
                    exact absurd H (by simp)
                · rw [if_neg c13] at H
                  exact absurd H (by simp)
              · rw [if_neg c12] at H
                exact absurd H (by simp)
            · rw [if_neg c11] at H
              exact absurd H (by simp)
          · rw [if_neg c10] at H
            have c10b0 : (a0 == 2) = false := beq_eq_false_iff_ne.mpr c10
            have c10b1 : (a0 != 2) = true := bne_iff_ne.mpr c10
            by_cases c26 : a0 = 3
            · rw [if_pos c26] at H
              have c26b0 : (a0 == 3) = true := beq_iff_eq.mpr c26
              have c26b1 : (a0 != 3) = false := bne_eq_false_iff_eq.mpr c26
              clear c26
              by_cases c27 : 0 < (l1.length : Int)
              · rw [if_pos c27] at H
                have c27b0 : decide (0 < (l1.length : Int)) = true := decide_eq_true c27
                have c27b1 : decide (0 < l1.length) = true := decide_eq_true (by omega)
                clear c27
                by_cases c28 : 1 < (l1.length : Int)
                · rw [if_pos c28] at H
                  have c28b0 : decide (1 < (l1.length : Int)) = true := decide_eq_true c28
                  have c28b1 : decide (1 < l1.length) = true := decide_eq_true (by omega)
                  clear c28
                  by_cases c29 : 2 < (l1.length : Int)
                  · rw [if_pos c29] at H
                    have c29b0 : decide (2 < (l1.length : Int)) = true := decide_eq_true c29
                    have c29b1 : decide (2 < l1.length) = true := decide_eq_true (by omega)
                    clear c29
                    simp only [Option.some.injEq, Prod.mk.injEq] at H
                    obtain ⟨rfl, rfl, rfl, rfl, rfl, rfl, rfl, rfl⟩ := H
                    try go_wp2_with (first | ((with_reducible refine gate_callee (f := 18) rfl ?_); refine goesL_ (some 17) rfl rfl Try.func18 (by kernel_rfl) rfl #[.int .u32 a0, .agg #[.int .u32 0, .int .u32 0, .int .u32 0, .int .u32 0, .int .u32 0, .int .u32 0, .int .u32 0]] rfl (by (try simp only [List.map_toArray, List.map_cons, List.map_nil]); first | done | rfl | (simp only [List.length_drop, List.length_take]; rfl)) ?_; (with_reducible refine (chamberlainref11_words.calls kj2 a0 0 0 0 0 0 0 0 t182 _ A8.out).mono ?_); rintro e w30 ⟨v183, rfl, ho0, hb⟩; refine ⟨_, rfl, ?_⟩; have n0_ := Aside0.mk (Kd.R_lower ho0 (below_size (by repeat (first | (with_reducible first | exact HB.out | apply below_alloc | apply pw_below_drewN | apply below_drew1 | refine below_set ?_ GE181.out) | exact HB.out)))); have n1_ := Aside0.mk (blk_below (g := gb181) (o := .cells #[.int .u32 0, .int .u32 0, .int .u32 0, .int .u32 0, .int .u32 0, .int .u32 0, .int .u32 0] 24 (0, 0)) (by (with_reducible repeat (first | refine blk_drewN ?_ _ | refine blk_drew ?_ | refine blk_alloc ?_ _)); exact BK181.out) hb); have n2_ := Aside0.mk (below_step (by repeat (first | (with_reducible first | exact HB.out | apply below_alloc | apply pw_below_drewN | apply below_drew1 | refine below_set ?_ GE181.out) | exact HB.out)) hb); clear BK181; clear HB; have HO184 := n0_; have BK181 := n1_; have HB := n2_; clear n0_ n1_ n2_; (try clear hb); (try clear hb2); (try clear hk); (try clear hi); (try clear ho0); obtain ⟨Ao31, co31, eo31⟩ := Kd.R_slice HO184.out; subst eo31))
                    have n0_ := Aside0.mk (Kd.R_drew HO184.out)
                    have n1_ := Aside0.mk (blk_drew BK181.out)
                    have n2_ := Aside0.mk (below_drew1 HB.out)
                    clear HO184
                    clear BK181
                    clear HB
                    have HO184 := n0_
                    have BK181 := n1_
                    have HB := n2_
                    clear n0_ n1_ n2_
                    have p190 : 0 ≤ (0 : Int) := (by omega)
                    have q190 : 0 < (l1.length : Int) := of_decide_eq_true (by first | (with_reducible assumption) | assumption)
                    obtain ⟨ad190, e190, hx190_0⟩ := Kd.at_int HR1.out 0 p190 q190
                    have hw190_0 := hx190_0
                    (try rw [show ((0 : Int)).toNat = 0 from rfl] at hw190_0)
                    (try rw [show 0 * 1 = 0 from rfl] at hw190_0)
                    (try rw [Addr.add_zero'] at hw190_0)
                    cases e190
                    have qi190 : (0 < l1.length) = True := eq_true (by omega)
                    (try rw [show ((0 : Int)).toNat = 0 from rfl] at hx190_0)
                    (try rw [Addr.add_zero'] at hx190_0)
                    replace hx190_0 := (HB.out.cell (World.block_lt_of_cell? w _ hx190_0)).trans hx190_0
                    replace p190 := eq_true p190
                    replace q190 := eq_true q190
                    have p191 : 0 ≤ (1 : Int) := (by omega)
                    have q191 : 1 < (l1.length : Int) := of_decide_eq_true (by first | (with_reducible assumption) | assumption)
                    obtain ⟨ad191, e191, hx191_0⟩ := Kd.at_int HR1.out 1 p191 q191
                    have hw191_0 := hx191_0
                    (try rw [show ((1 : Int)).toNat = 1 from rfl] at hw191_0)
                    (try rw [show 1 * 1 = 1 from rfl] at hw191_0)
                    (try simp only [Nat.reduceMul, Nat.reduceEqDiff, Go.Addr.add, ↓reduceIte] at hw191_0)
                    obtain rfl : ad190 = ad191 := (by injection e191)
                    (try simp only [show (1 : Int).toNat = 1 from rfl, Nat.reduceMul, Nat.reduceEqDiff, Go.Addr.add, ↓reduceIte] at hx191_0)
                    have qi191 : (1 < l1.length) = True := eq_true (by omega)
                    (try rw [show ((1 : Int)).toNat = 1 from rfl] at hx191_0)
                    replace hx191_0 := (HB.out.cell (World.block_lt_of_cell? w _ hx191_0)).trans hx191_0
                    replace p191 := eq_true p191
                    replace q191 := eq_true q191
                    have p192 : 0 ≤ (2 : Int) := (by omega)
                    have q192 : 2 < (l1.length : Int) := of_decide_eq_true (by first | (with_reducible assumption) | assumption)
                    obtain ⟨ad192, e192, hx192_0⟩ := Kd.at_int HR1.out 2 p192 q192
                    have hw192_0 := hx192_0
                    (try rw [show ((2 : Int)).toNat = 2 from rfl] at hw192_0)
                    (try rw [show 2 * 1 = 2 from rfl] at hw192_0)
                    (try simp only [Nat.reduceMul, Nat.reduceEqDiff, Go.Addr.add, ↓reduceIte] at hw192_0)
                    obtain rfl : ad190 = ad192 := (by injection e192)
                    (try simp only [show (2 : Int).toNat = 2 from rfl, Nat.reduceMul, Nat.reduceEqDiff, Go.Addr.add, ↓reduceIte] at hx192_0)
                    have qi192 : (2 < l1.length) = True := eq_true (by omega)
                    (try rw [show ((2 : Int)).toNat = 2 from rfl] at hx192_0)
                    replace hx192_0 := (HB.out.cell (World.block_lt_of_cell? w _ hx192_0)).trans hx192_0
                    replace p192 := eq_true p192
                    replace q192 := eq_true q192
                    refine start_ (n := 12) (S := fun w' => w'.cell? ad190 = some (.int .u32 (rd l1 0)) ∧ w'.cell? ⟨ad190.block, ad190.off + 1, none⟩ = some (.int .u32 (rd l1 1)) ∧ w'.cell? ⟨ad190.block, ad190.off + 2, none⟩ = some (.int .u32 (rd l1 2))) (ds := []) #[false, false, false, false, false, false, false, false, false, false, false, false] (by kernel_rfl) rfl rfl ⟨((HB.out.cell (World.block_lt_of_cell? w _ hw190_0)).trans hw190_0), ((HB.out.cell (World.block_lt_of_cell? w _ hw191_0)).trans hw191_0), ((HB.out.cell (World.block_lt_of_cell? w _ hw192_0)).trans hw192_0)⟩ (fun hHeld => ?_); refine with_tabW chamberlainref11_Get.tab9 chamberlainref11_Get.bits9 (fun HT_ HW_ => ?_)
                    generalize w30.drew = w32 at HO184 BK181 HB hx190_0 hx191_0 hx192_0 hHeld ⊢
                    refine pure_ (i := 0) (N := some 42) (v := ?_) (a' := ?_) #[true, false, false, false, false, false, false, false, false, false, false, false] rfl rfl (any_of HT_.out (by kernel_rfl)) (fun _ _ _ h => h) (Or.inl ⟨by rfl, ?_⟩) ?_ ?_
                    rotate_left
                    · intro w'
                      go_simp
                      with_reducible rfl
                    rotate_left
                    · simp only [Act.put, List.setIfInBounds_toArray, List.set_cons_zero, List.set_cons_succ, i64_w, i32_w]
                      rfl
                    refine pure_ (i := 1) (N := some 43) (v := ?_) (a' := ?_) #[true, true, false, false, false, false, false, false, false, false, false, false] rfl rfl (any_of HT_.out (by kernel_rfl)) (fun _ _ _ h => h) (Or.inl ⟨by rfl, ?_⟩) ?_ ?_
                    rotate_left
                    · intro w'
                      go_simp
                      with_reducible rfl
                    rotate_left
                    · simp only [Act.put, List.setIfInBounds_toArray, List.set_cons_zero, List.set_cons_succ, i64_w, i32_w]
                      rfl
                    refine pure_ (i := 3) (N := some 45) (v := ?_) (a' := ?_) #[true, true, false, true, false, false, false, false, false, false, false, false] rfl rfl (any_of HT_.out (by kernel_rfl)) (fun _ _ _ h => h) (Or.inl ⟨by rfl, ?_⟩) ?_ ?_
                    rotate_left
                    · intro w'
                      go_simp
                      with_reducible rfl
                    rotate_left
                    · simp only [Act.put, List.setIfInBounds_toArray, List.set_cons_zero, List.set_cons_succ, i64_w, i32_w]
                      rfl
                    refine pure_ (i := 4) (N := some 46) (v := ?_) (a' := ?_) #[true, true, false, true, true, false, false, false, false, false, false, false] rfl rfl (any_of HT_.out (by kernel_rfl)) (fun _ _ _ h => h) (Or.inl ⟨by rfl, ?_⟩) ?_ ?_
                    rotate_left
                    · intro w'
                      go_simp
                      with_reducible rfl
                    rotate_left
                    · simp only [Act.put, List.setIfInBounds_toArray, List.set_cons_zero, List.set_cons_succ, i64_w, i32_w]
                      rfl
                    refine pure_ (i := 6) (N := some 48) (v := ?_) (a' := ?_) #[true, true, false, true, true, false, true, false, false, false, false, false] rfl rfl (any_of HT_.out (by kernel_rfl)) (fun _ _ _ h => h) (Or.inl ⟨by rfl, ?_⟩) ?_ ?_
                    rotate_left
                    · intro w'
                      go_simp
                      with_reducible rfl
                    rotate_left
                    · simp only [Act.put, List.setIfInBounds_toArray, List.set_cons_zero, List.set_cons_succ, i64_w, i32_w]
                      rfl
                    refine pure_ (i := 7) (N := some 49) (v := ?_) (a' := ?_) #[true, true, false, true, true, false, true, true, false, false, false, false] rfl rfl (any_of HT_.out (by kernel_rfl)) (fun _ _ _ h => h) (Or.inl ⟨by rfl, ?_⟩) ?_ ?_
                    rotate_left
                    · intro w'
                      go_simp
                      with_reducible rfl
                    rotate_left
                    · simp only [Act.put, List.setIfInBounds_toArray, List.set_cons_zero, List.set_cons_succ, i64_w, i32_w]
                      rfl
                    refine take_ (i := 2) (N := some 44) (v := ?_) (a' := ?_) #[true, true, true, true, true, false, true, true, false, false, false, false] rfl rfl (take_ofW HT_.out HW_.out (by kernel_rfl)) (fun _ _ _ h => h) (Or.inl ⟨by rfl, ?_⟩) hHeld ?_ ?_
                    rotate_left
                    · rintro w' ⟨s0, s1, s2⟩
                      go_simp
                      with_reducible rfl
                    rotate_left
                    · simp only [Act.put, List.setIfInBounds_toArray, List.set_cons_zero, List.set_cons_succ, i64_w, i32_w]
                      rfl
                    refine take_ (i := 5) (N := some 47) (v := ?_) (a' := ?_) #[true, true, true, true, true, true, true, true, false, false, false, false] rfl rfl (take_ofW HT_.out HW_.out (by kernel_rfl)) (fun _ _ _ h => h) (Or.inl ⟨by rfl, ?_⟩) hHeld ?_ ?_
                    rotate_left
                    · rintro w' ⟨s0, s1, s2⟩
                      go_simp
                      with_reducible rfl
                    rotate_left
                    · simp only [Act.put, List.setIfInBounds_toArray, List.set_cons_zero, List.set_cons_succ, i64_w, i32_w]
                      rfl
                    refine take_ (i := 8) (N := some 50) (v := ?_) (a' := ?_) #[true, true, true, true, true, true, true, true, true, false, false, false] rfl rfl (take_ofW HT_.out HW_.out (by kernel_rfl)) (fun _ _ _ h => h) (Or.inl ⟨by rfl, ?_⟩) hHeld ?_ ?_
                    rotate_left
                    · rintro w' ⟨s0, s1, s2⟩
                      go_simp
                      with_reducible rfl
                    rotate_left
                    · simp only [Act.put, List.setIfInBounds_toArray, List.set_cons_zero, List.set_cons_succ, i64_w, i32_w]
                      rfl
                    refine pure_ (i := 9) (N := some 51) (v := ?_) (a' := ?_) #[true, true, true, true, true, true, true, true, true, true, false, false] rfl rfl (any_of HT_.out (by kernel_rfl)) (fun _ _ _ h => h) (Or.inl ⟨by rfl, ?_⟩) ?_ ?_
                    rotate_left
                    · intro w'
                      go_simp
                      with_reducible rfl
                    rotate_left
                    · simp only [Act.put, List.setIfInBounds_toArray, List.set_cons_zero, List.set_cons_succ, i64_w, i32_w]
                      rfl
                    refine one_ (i := 10) (N := none) #[true, true, true, true, true, true, true, true, true, true, true, false] rfl rfl (one_of HT_.out (by kernel_rfl)) (by decide) (fun K hK => ?_)
                    have hs33 : w32.cell? ⟨gb181, 0, none⟩ = some (.int .u32 0) := (blk_cell BK181.out 0).trans rfl
                    have hfs33 := blk_frozen BK181.out 0
                    have hs34 : w32.cell? ⟨gb181, 1, none⟩ = some (.int .u32 0) := (blk_cell BK181.out 1).trans rfl
                    have hfs34 := blk_frozen BK181.out 1
                    have hs35 : w32.cell? ⟨gb181, 2, none⟩ = some (.int .u32 0) := (blk_cell BK181.out 2).trans rfl
                    have hfs35 := blk_frozen BK181.out 2
                    have hs36 : w32.cell? ⟨gb181, 3, none⟩ = some (.int .u32 0) := (blk_cell BK181.out 3).trans rfl
                    have hfs36 := blk_frozen BK181.out 3
                    have hs37 : w32.cell? ⟨gb181, 4, none⟩ = some (.int .u32 0) := (blk_cell BK181.out 4).trans rfl
                    have hfs37 := blk_frozen BK181.out 4
                    have hs38 : w32.cell? ⟨gb181, 5, none⟩ = some (.int .u32 0) := (blk_cell BK181.out 5).trans rfl
                    have hfs38 := blk_frozen BK181.out 5
                    have hs39 : w32.cell? ⟨gb181, 6, none⟩ = some (.int .u32 0) := (blk_cell BK181.out 6).trans rfl
                    have hfs39 := blk_frozen BK181.out 6
                    refine skip_ (w1 := ?_) (by rfl) rfl ?_ ?_
                    rotate_left
                    · go_simp
                      rfl
                    refine hK.out _ _ ⟨((cell_far (p := ⟨gb181, _, none⟩) (by first | exact Nat.ne_of_lt (Nat.lt_of_lt_of_le (by have := World.block_lt_of_cell? _ _ hw190_0; first | rwa [add_block] at this | exact this) GW181.out) | (rw [add_block]; exact Nat.ne_of_lt (Nat.lt_of_lt_of_le (by have := World.block_lt_of_cell? _ _ hw190_0; first | rwa [add_block] at this | exact this) GW181.out)) | (show (Addr.add _ _).block ≠ _; rw [add_block]; exact Nat.ne_of_lt (Nat.lt_of_lt_of_le (by have := World.block_lt_of_cell? _ _ hw190_0; first | rwa [add_block] at this | exact this) GW181.out)) | (dsimp only; exact Nat.ne_of_lt (Nat.lt_of_lt_of_le (by have := World.block_lt_of_cell? _ _ hw190_0; first | rwa [add_block] at this | exact this) GW181.out))) _).trans (((cell_far (p := ⟨gb181, _, none⟩) (by first | exact Nat.ne_of_lt (Nat.lt_of_lt_of_le (by have := World.block_lt_of_cell? _ _ hw190_0; first | rwa [add_block] at this | exact this) GW181.out) | (rw [add_block]; exact Nat.ne_of_lt (Nat.lt_of_lt_of_le (by have := World.block_lt_of_cell? _ _ hw190_0; first | rwa [add_block] at this | exact this) GW181.out)) | (show (Addr.add _ _).block ≠ _; rw [add_block]; exact Nat.ne_of_lt (Nat.lt_of_lt_of_le (by have := World.block_lt_of_cell? _ _ hw190_0; first | rwa [add_block] at this | exact this) GW181.out)) | (dsimp only; exact Nat.ne_of_lt (Nat.lt_of_lt_of_le (by have := World.block_lt_of_cell? _ _ hw190_0; first | rwa [add_block] at this | exact this) GW181.out))) _).trans (((cell_far (p := ⟨gb181, _, none⟩) (by first | exact Nat.ne_of_lt (Nat.lt_of_lt_of_le (by have := World.block_lt_of_cell? _ _ hw190_0; first | rwa [add_block] at this | exact this) GW181.out) | (rw [add_block]; exact Nat.ne_of_lt (Nat.lt_of_lt_of_le (by have := World.block_lt_of_cell? _ _ hw190_0; first | rwa [add_block] at this | exact this) GW181.out)) | (show (Addr.add _ _).block ≠ _; rw [add_block]; exact Nat.ne_of_lt (Nat.lt_of_lt_of_le (by have := World.block_lt_of_cell? _ _ hw190_0; first | rwa [add_block] at this | exact this) GW181.out)) | (dsimp only; exact Nat.ne_of_lt (Nat.lt_of_lt_of_le (by have := World.block_lt_of_cell? _ _ hw190_0; first | rwa [add_block] at this | exact this) GW181.out))) _).trans (((cell_far (p := ⟨gb181, _, none⟩) (by first | exact Nat.ne_of_lt (Nat.lt_of_lt_of_le (by have := World.block_lt_of_cell? _ _ hw190_0; first | rwa [add_block] at this | exact this) GW181.out) | (rw [add_block]; exact Nat.ne_of_lt (Nat.lt_of_lt_of_le (by have := World.block_lt_of_cell? _ _ hw190_0; first | rwa [add_block] at this | exact this) GW181.out)) | (show (Addr.add _ _).block ≠ _; rw [add_block]; exact Nat.ne_of_lt (Nat.lt_of_lt_of_le (by have := World.block_lt_of_cell? _ _ hw190_0; first | rwa [add_block] at this | exact this) GW181.out)) | (dsimp only; exact Nat.ne_of_lt (Nat.lt_of_lt_of_le (by have := World.block_lt_of_cell? _ _ hw190_0; first | rwa [add_block] at this | exact this) GW181.out))) _).trans (((cell_far (p := ⟨gb181, _, none⟩) (by first | exact Nat.ne_of_lt (Nat.lt_of_lt_of_le (by have := World.block_lt_of_cell? _ _ hw190_0; first | rwa [add_block] at this | exact this) GW181.out) | (rw [add_block]; exact Nat.ne_of_lt (Nat.lt_of_lt_of_le (by have := World.block_lt_of_cell? _ _ hw190_0; first | rwa [add_block] at this | exact this) GW181.out)) | (show (Addr.add _ _).block ≠ _; rw [add_block]; exact Nat.ne_of_lt (Nat.lt_of_lt_of_le (by have := World.block_lt_of_cell? _ _ hw190_0; first | rwa [add_block] at this | exact this) GW181.out)) | (dsimp only; exact Nat.ne_of_lt (Nat.lt_of_lt_of_le (by have := World.block_lt_of_cell? _ _ hw190_0; first | rwa [add_block] at this | exact this) GW181.out))) _).trans (((cell_far (p := ⟨gb181, _, none⟩) (by first | exact Nat.ne_of_lt (Nat.lt_of_lt_of_le (by have := World.block_lt_of_cell? _ _ hw190_0; first | rwa [add_block] at this | exact this) GW181.out) | (rw [add_block]; exact Nat.ne_of_lt (Nat.lt_of_lt_of_le (by have := World.block_lt_of_cell? _ _ hw190_0; first | rwa [add_block] at this | exact this) GW181.out)) | (show (Addr.add _ _).block ≠ _; rw [add_block]; exact Nat.ne_of_lt (Nat.lt_of_lt_of_le (by have := World.block_lt_of_cell? _ _ hw190_0; first | rwa [add_block] at this | exact this) GW181.out)) | (dsimp only; exact Nat.ne_of_lt (Nat.lt_of_lt_of_le (by have := World.block_lt_of_cell? _ _ hw190_0; first | rwa [add_block] at this | exact this) GW181.out))) _).trans (((cell_far (p := ⟨gb181, _, none⟩) (by first | exact Nat.ne_of_lt (Nat.lt_of_lt_of_le (by have := World.block_lt_of_cell? _ _ hw190_0; first | rwa [add_block] at this | exact this) GW181.out) | (rw [add_block]; exact Nat.ne_of_lt (Nat.lt_of_lt_of_le (by have := World.block_lt_of_cell? _ _ hw190_0; first | rwa [add_block] at this | exact this) GW181.out)) | (show (Addr.add _ _).block ≠ _; rw [add_block]; exact Nat.ne_of_lt (Nat.lt_of_lt_of_le (by have := World.block_lt_of_cell? _ _ hw190_0; first | rwa [add_block] at this | exact this) GW181.out)) | (dsimp only; exact Nat.ne_of_lt (Nat.lt_of_lt_of_le (by have := World.block_lt_of_cell? _ _ hw190_0; first | rwa [add_block] at this | exact this) GW181.out))) _).trans (hHeld.1)))))))))))))), ((cell_far (p := ⟨gb181, _, none⟩) (by first | exact Nat.ne_of_lt (Nat.lt_of_lt_of_le (by have := World.block_lt_of_cell? _ _ hw191_0; first | rwa [add_block] at this | exact this) GW181.out) | (rw [add_block]; exact Nat.ne_of_lt (Nat.lt_of_lt_of_le (by have := World.block_lt_of_cell? _ _ hw191_0; first | rwa [add_block] at this | exact this) GW181.out)) | (show (Addr.add _ _).block ≠ _; rw [add_block]; exact Nat.ne_of_lt (Nat.lt_of_lt_of_le (by have := World.block_lt_of_cell? _ _ hw191_0; first | rwa [add_block] at this | exact this) GW181.out)) | (dsimp only; exact Nat.ne_of_lt (Nat.lt_of_lt_of_le (by have := World.block_lt_of_cell? _ _ hw191_0; first | rwa [add_block] at this | exact this) GW181.out))) _).trans (((cell_far (p := ⟨gb181, _, none⟩) (by first | exact Nat.ne_of_lt (Nat.lt_of_lt_of_le (by have := World.block_lt_of_cell? _ _ hw191_0; first | rwa [add_block] at this | exact this) GW181.out) | (rw [add_block]; exact Nat.ne_of_lt (Nat.lt_of_lt_of_le (by have := World.block_lt_of_cell? _ _ hw191_0; first | rwa [add_block] at this | exact this) GW181.out)) | (show (Addr.add _ _).block ≠ _; rw [add_block]; exact Nat.ne_of_lt (Nat.lt_of_lt_of_le (by have := World.block_lt_of_cell? _ _ hw191_0; first | rwa [add_block] at this | exact this) GW181.out)) | (dsimp only; exact Nat.ne_of_lt (Nat.lt_of_lt_of_le (by have := World.block_lt_of_cell? _ _ hw191_0; first | rwa [add_block] at this | exact this) GW181.out))) _).trans (((cell_far (p := ⟨gb181, _, none⟩) (by first | exact Nat.ne_of_lt (Nat.lt_of_lt_of_le (by have := World.block_lt_of_cell? _ _ hw191_0; first | rwa [add_block] at this | exact this) GW181.out) | (rw [add_block]; exact Nat.ne_of_lt (Nat.lt_of_lt_of_le (by have := World.block_lt_of_cell? _ _ hw191_0; first | rwa [add_block] at this | exact this) GW181.out)) | (show (Addr.add _ _).block ≠ _; rw [add_block]; exact Nat.ne_of_lt (Nat.lt_of_lt_of_le (by have := World.block_lt_of_cell? _ _ hw191_0; first | rwa [add_block] at this | exact this) GW181.out)) | (dsimp only; exact Nat.ne_of_lt (Nat.lt_of_lt_of_le (by have := World.block_lt_of_cell? _ _ hw191_0; first | rwa [add_block] at this | exact this) GW181.out))) _).trans (((cell_far (p := ⟨gb181, _, none⟩) (by first | exact Nat.ne_of_lt (Nat.lt_of_lt_of_le (by have := World.block_lt_of_cell? _ _ hw191_0; first | rwa [add_block] at this | exact this) GW181.out) | (rw [add_block]; exact Nat.ne_of_lt (Nat.lt_of_lt_of_le (by have := World.block_lt_of_cell? _ _ hw191_0; first | rwa [add_block] at this | exact this) GW181.out)) | (show (Addr.add _ _).block ≠ _; rw [add_block]; exact Nat.ne_of_lt (Nat.lt_of_lt_of_le (by have := World.block_lt_of_cell? _ _ hw191_0; first | rwa [add_block] at this | exact this) GW181.out)) | (dsimp only; exact Nat.ne_of_lt (Nat.lt_of_lt_of_le (by have := World.block_lt_of_cell? _ _ hw191_0; first | rwa [add_block] at this | exact this) GW181.out))) _).trans (((cell_far (p := ⟨gb181, _, none⟩) (by first | exact Nat.ne_of_lt (Nat.lt_of_lt_of_le (by have := World.block_lt_of_cell? _ _ hw191_0; first | rwa [add_block] at this | exact this) GW181.out) | (rw [add_block]; exact Nat.ne_of_lt (Nat.lt_of_lt_of_le (by have := World.block_lt_of_cell? _ _ hw191_0; first | rwa [add_block] at this | exact this) GW181.out)) | (show (Addr.add _ _).block ≠ _; rw [add_block]; exact Nat.ne_of_lt (Nat.lt_of_lt_of_le (by have := World.block_lt_of_cell? _ _ hw191_0; first | rwa [add_block] at this | exact this) GW181.out)) | (dsimp only; exact Nat.ne_of_lt (Nat.lt_of_lt_of_le (by have := World.block_lt_of_cell? _ _ hw191_0; first | rwa [add_block] at this | exact this) GW181.out))) _).trans (((cell_far (p := ⟨gb181, _, none⟩) (by first | exact Nat.ne_of_lt (Nat.lt_of_lt_of_le (by have := World.block_lt_of_cell? _ _ hw191_0; first | rwa [add_block] at this | exact this) GW181.out) | (rw [add_block]; exact Nat.ne_of_lt (Nat.lt_of_lt_of_le (by have := World.block_lt_of_cell? _ _ hw191_0; first | rwa [add_block] at this | exact this) GW181.out)) | (show (Addr.add _ _).block ≠ _; rw [add_block]; exact Nat.ne_of_lt (Nat.lt_of_lt_of_le (by have := World.block_lt_of_cell? _ _ hw191_0; first | rwa [add_block] at this | exact this) GW181.out)) | (dsimp only; exact Nat.ne_of_lt (Nat.lt_of_lt_of_le (by have := World.block_lt_of_cell? _ _ hw191_0; first | rwa [add_block] at this | exact this) GW181.out))) _).trans (((cell_far (p := ⟨gb181, _, none⟩) (by first | exact Nat.ne_of_lt (Nat.lt_of_lt_of_le (by have := World.block_lt_of_cell? _ _ hw191_0; first | rwa [add_block] at this | exact this) GW181.out) | (rw [add_block]; exact Nat.ne_of_lt (Nat.lt_of_lt_of_le (by have := World.block_lt_of_cell? _ _ hw191_0; first | rwa [add_block] at this | exact this) GW181.out)) | (show (Addr.add _ _).block ≠ _; rw [add_block]; exact Nat.ne_of_lt (Nat.lt_of_lt_of_le (by have := World.block_lt_of_cell? _ _ hw191_0; first | rwa [add_block] at this | exact this) GW181.out)) | (dsimp only; exact Nat.ne_of_lt (Nat.lt_of_lt_of_le (by have := World.block_lt_of_cell? _ _ hw191_0; first | rwa [add_block] at this | exact this) GW181.out))) _).trans (hHeld.2.1)))))))))))))), ((cell_far (p := ⟨gb181, _, none⟩) (by first | exact Nat.ne_of_lt (Nat.lt_of_lt_of_le (by have := World.block_lt_of_cell? _ _ hw192_0; first | rwa [add_block] at this | exact this) GW181.out) | (rw [add_block]; exact Nat.ne_of_lt (Nat.lt_of_lt_of_le (by have := World.block_lt_of_cell? _ _ hw192_0; first | rwa [add_block] at this | exact this) GW181.out)) | (show (Addr.add _ _).block ≠ _; rw [add_block]; exact Nat.ne_of_lt (Nat.lt_of_lt_of_le (by have := World.block_lt_of_cell? _ _ hw192_0; first | rwa [add_block] at this | exact this) GW181.out)) | (dsimp only; exact Nat.ne_of_lt (Nat.lt_of_lt_of_le (by have := World.block_lt_of_cell? _ _ hw192_0; first | rwa [add_block] at this | exact this) GW181.out))) _).trans (((cell_far (p := ⟨gb181, _, none⟩) (by first | exact Nat.ne_of_lt (Nat.lt_of_lt_of_le (by have := World.block_lt_of_cell? _ _ hw192_0; first | rwa [add_block] at this | exact this) GW181.out) | (rw [add_block]; exact Nat.ne_of_lt (Nat.lt_of_lt_of_le (by have := World.block_lt_of_cell? _ _ hw192_0; first | rwa [add_block] at this | exact this) GW181.out)) | (show (Addr.add _ _).block ≠ _; rw [add_block]; exact Nat.ne_of_lt (Nat.lt_of_lt_of_le (by have := World.block_lt_of_cell? _ _ hw192_0; first | rwa [add_block] at this | exact this) GW181.out)) | (dsimp only; exact Nat.ne_of_lt (Nat.lt_of_lt_of_le (by have := World.block_lt_of_cell? _ _ hw192_0; first | rwa [add_block] at this | exact this) GW181.out))) _).trans (((cell_far (p := ⟨gb181, _, none⟩) (by first | exact Nat.ne_of_lt (Nat.lt_of_lt_of_le (by have := World.block_lt_of_cell? _ _ hw192_0; first | rwa [add_block] at this | exact this) GW181.out) | (rw [add_block]; exact Nat.ne_of_lt (Nat.lt_of_lt_of_le (by have := World.block_lt_of_cell? _ _ hw192_0; first | rwa [add_block] at this | exact this) GW181.out)) | (show (Addr.add _ _).block ≠ _; rw [add_block]; exact Nat.ne_of_lt (Nat.lt_of_lt_of_le (by have := World.block_lt_of_cell? _ _ hw192_0; first | rwa [add_block] at this | exact this) GW181.out)) | (dsimp only; exact Nat.ne_of_lt (Nat.lt_of_lt_of_le (by have := World.block_lt_of_cell? _ _ hw192_0; first | rwa [add_block] at this | exact this) GW181.out))) _).trans (((cell_far (p := ⟨gb181, _, none⟩) (by first | exact Nat.ne_of_lt (Nat.lt_of_lt_of_le (by have := World.block_lt_of_cell? _ _ hw192_0; first | rwa [add_block] at this | exact this) GW181.out) | (rw [add_block]; exact Nat.ne_of_lt (Nat.lt_of_lt_of_le (by have := World.block_lt_of_cell? _ _ hw192_0; first | rwa [add_block] at this | exact this) GW181.out)) | (show (Addr.add _ _).block ≠ _; rw [add_block]; exact Nat.ne_of_lt (Nat.lt_of_lt_of_le (by have := World.block_lt_of_cell? _ _ hw192_0; first | rwa [add_block] at this | exact this) GW181.out)) | (dsimp only; exact Nat.ne_of_lt (Nat.lt_of_lt_of_le (by have := World.block_lt_of_cell? _ _ hw192_0; first | rwa [add_block] at this | exact this) GW181.out))) _).trans (((cell_far (p := ⟨gb181, _, none⟩) (by first | exact Nat.ne_of_lt (Nat.lt_of_lt_of_le (by have := World.block_lt_of_cell? _ _ hw192_0; first | rwa [add_block] at this | exact this) GW181.out) | (rw [add_block]; exact Nat.ne_of_lt (Nat.lt_of_lt_of_le (by have := World.block_lt_of_cell? _ _ hw192_0; first | rwa [add_block] at this | exact this) GW181.out)) | (show (Addr.add _ _).block ≠ _; rw [add_block]; exact Nat.ne_of_lt (Nat.lt_of_lt_of_le (by have := World.block_lt_of_cell? _ _ hw192_0; first | rwa [add_block] at this | exact this) GW181.out)) | (dsimp only; exact Nat.ne_of_lt (Nat.lt_of_lt_of_le (by have := World.block_lt_of_cell? _ _ hw192_0; first | rwa [add_block] at this | exact this) GW181.out))) _).trans (((cell_far (p := ⟨gb181, _, none⟩) (by first | exact Nat.ne_of_lt (Nat.lt_of_lt_of_le (by have := World.block_lt_of_cell? _ _ hw192_0; first | rwa [add_block] at this | exact this) GW181.out) | (rw [add_block]; exact Nat.ne_of_lt (Nat.lt_of_lt_of_le (by have := World.block_lt_of_cell? _ _ hw192_0; first | rwa [add_block] at this | exact this) GW181.out)) | (show (Addr.add _ _).block ≠ _; rw [add_block]; exact Nat.ne_of_lt (Nat.lt_of_lt_of_le (by have := World.block_lt_of_cell? _ _ hw192_0; first | rwa [add_block] at this | exact this) GW181.out)) | (dsimp only; exact Nat.ne_of_lt (Nat.lt_of_lt_of_le (by have := World.block_lt_of_cell? _ _ hw192_0; first | rwa [add_block] at this | exact this) GW181.out))) _).trans (((cell_far (p := ⟨gb181, _, none⟩) (by first | exact Nat.ne_of_lt (Nat.lt_of_lt_of_le (by have := World.block_lt_of_cell? _ _ hw192_0; first | rwa [add_block] at this | exact this) GW181.out) | (rw [add_block]; exact Nat.ne_of_lt (Nat.lt_of_lt_of_le (by have := World.block_lt_of_cell? _ _ hw192_0; first | rwa [add_block] at this | exact this) GW181.out)) | (show (Addr.add _ _).block ≠ _; rw [add_block]; exact Nat.ne_of_lt (Nat.lt_of_lt_of_le (by have := World.block_lt_of_cell? _ _ hw192_0; first | rwa [add_block] at this | exact this) GW181.out)) | (dsimp only; exact Nat.ne_of_lt (Nat.lt_of_lt_of_le (by have := World.block_lt_of_cell? _ _ hw192_0; first | rwa [add_block] at this | exact this) GW181.out))) _).trans (hHeld.2.2))))))))))))))⟩ (fun hHeld => ?_)
                    clear hK K
                    refine pure_ (i := 11) (N := some 5) (v := ?_) (a' := ?_) #[true, true, true, true, true, true, true, true, true, true, true, true] rfl rfl (any_of HT_.out (by kernel_rfl)) (fun _ _ _ h => h) (Or.inl ⟨by rfl, ?_⟩) ?_ ?_
                    rotate_left
                    · intro w'
                      go_simp
                      with_reducible rfl
                    rotate_left
                    · simp only [Act.put, List.setIfInBounds_toArray, List.set_cons_zero, List.set_cons_succ, i64_w, i32_w]
                      rfl
                    refine done_ (done_of HT_.out (by kernel_rfl)) ?_
                    try go_wp2
                    refine bodyPost_ret (results_ct rfl _ _ gb181 24 #[.int .u32 0, .int .u32 0, .int .u32 (rd l1 1), .int .u32 0, .int .u32 (rd l1 0), .int .u32 (rd l1 2), .int .u32 0] (0, 0) _ rfl (by (with_reducible repeat (first | refine blk_drewN ?_ _ | refine blk_drew ?_ | refine blk_alloc ?_ _)); refine blk_put (cs := #[.int .u32 0, .int .u32 0, .int .u32 (rd l1 1), .int .u32 0, .int .u32 (rd l1 0), .int .u32 (rd l1 2), .int .u32 0]) ?_ 6 _ rfl; (with_reducible repeat (first | refine blk_drewN ?_ _ | refine blk_drew ?_ | refine blk_alloc ?_ _)); refine blk_put (cs := #[.int .u32 0, .int .u32 0, .int .u32 (rd l1 1), .int .u32 0, .int .u32 (rd l1 0), .int .u32 0, .int .u32 0]) ?_ 5 _ rfl; (with_reducible repeat (first | refine blk_drewN ?_ _ | refine blk_drew ?_ | refine blk_alloc ?_ _)); refine blk_put (cs := #[.int .u32 0, .int .u32 0, .int .u32 (rd l1 1), .int .u32 0, .int .u32 0, .int .u32 0, .int .u32 0]) ?_ 4 _ rfl; (with_reducible repeat (first | refine blk_drewN ?_ _ | refine blk_drew ?_ | refine blk_alloc ?_ _)); refine blk_put (cs := #[.int .u32 0, .int .u32 0, .int .u32 (rd l1 1), .int .u32 0, .int .u32 0, .int .u32 0, .int .u32 0]) ?_ 3 _ rfl; (with_reducible repeat (first | refine blk_drewN ?_ _ | refine blk_drew ?_ | refine blk_alloc ?_ _)); refine blk_put (cs := #[.int .u32 0, .int .u32 0, .int .u32 0, .int .u32 0, .int .u32 0, .int .u32 0, .int .u32 0]) ?_ 2 _ rfl; (with_reducible repeat (first | refine blk_drewN ?_ _ | refine blk_drew ?_ | refine blk_alloc ?_ _)); refine blk_put (cs := #[.int .u32 0, .int .u32 0, .int .u32 0, .int .u32 0, .int .u32 0, .int .u32 0, .int .u32 0]) ?_ 1 _ rfl; (with_reducible repeat (first | refine blk_drewN ?_ _ | refine blk_drew ?_ | refine blk_alloc ?_ _)); refine blk_put (cs := #[.int .u32 0, .int .u32 0, .int .u32 0, .int .u32 0, .int .u32 0, .int .u32 0, .int .u32 0]) ?_ 0 _ rfl; (with_reducible repeat (first | refine blk_drewN ?_ _ | refine blk_drew ?_ | refine blk_alloc ?_ _)); exact BK181.out) Try.underlying24 rfl (by kernel_rfl)) rfl ?_
                    exact ⟨by first | rfl | (simp [errW_none, errW_some] <;> rfl) | (simp [*, errW_none, errW_some] <;> rfl), by repeat (first | (with_reducible first | exact HB.out | apply below_alloc | apply pw_below_drewN | apply below_drew1 | refine below_set ?_ GE181.out) | exact HB.out)⟩
                  · rw [if_neg c29] at H
                    exact absurd H (by simp)
                · rw [if_neg c28] at H
                  exact absurd H (by simp)
              · rw [if_neg c27] at H
                exact absurd H (by simp)
            · rw [if_neg c26] at H
              have c26b0 : (a0 == 3) = false := beq_eq_false_iff_ne.mpr c26
              have c26b1 : (a0 != 3) = true := bne_iff_ne.mpr c26
              have HC40 := Aside0.mk H
              clear H
              go_upto_if 52 with (first | ((with_reducible refine gate_callee (f := 18) rfl ?_); refine goesL_ (some 17) rfl rfl Try.func18 (by kernel_rfl) rfl #[.int .u32 a0, .agg #[.int .u32 0, .int .u32 0, .int .u32 0, .int .u32 0, .int .u32 0, .int .u32 0, .int .u32 0]] rfl (by (try simp only [List.map_toArray, List.map_cons, List.map_nil]); first | done | rfl | (simp only [List.length_drop, List.length_take]; rfl)) ?_; (with_reducible refine (chamberlainref11_words.calls kj2 a0 0 0 0 0 0 0 0 t182 _ A8.out).mono ?_); rintro e w41 ⟨v183, rfl, ho0, hb⟩; refine ⟨_, rfl, ?_⟩; have n0_ := Aside0.mk (Kd.R_lower ho0 (below_size (by repeat (first | (with_reducible first | exact HB.out | apply below_alloc | apply pw_below_drewN | apply below_drew1 | refine below_set ?_ GE181.out) | exact HB.out)))); have n1_ := Aside0.mk (blk_below (g := gb181) (o := .cells #[.int .u32 0, .int .u32 0, .int .u32 0, .int .u32 0, .int .u32 0, .int .u32 0, .int .u32 0] 24 (0, 0)) (by (with_reducible repeat (first | refine blk_drewN ?_ _ | refine blk_drew ?_ | refine blk_alloc ?_ _)); exact BK181.out) hb); have n2_ := Aside0.mk (below_step (by repeat (first | (with_reducible first | exact HB.out | apply below_alloc | apply pw_below_drewN | apply below_drew1 | refine below_set ?_ GE181.out) | exact HB.out)) hb); clear BK181; clear HB; have HO184 := n0_; have BK181 := n1_; have HB := n2_; clear n0_ n1_ n2_; (try clear hb); (try clear hb2); (try clear hk); (try clear hi); (try clear ho0); obtain ⟨Ao42, co42, eo42⟩ := Kd.R_slice HO184.out; subst eo42))
              (try simp only [Act.put, List.setIfInBounds_toArray, List.set_cons_zero, List.set_cons_succ])
              go_cut [52] (fun v52 wc => ∃ (kq : Nat) (x52_39 : Bool), v52 = .bool x52_39 ∧ Aside0 (chamberlainref11_Get.j1 kq l1 a0 x52_39 = some (r1, r2, r3, r4, r5, r6, r7, r8)) ∧ Aside0 (kq ≤ kj2) ∧ Aside0 (wc.heap[gb181]? = some (.cells #[.int .u32 0, .int .u32 0, .int .u32 0, .int .u32 0, .int .u32 0, .int .u32 0, .int .u32 0] 24 (0, 0))) ∧ Aside0 (Below w.heap.size w wc))
              case first =>
                have H := HC40.out
                clear HC40
                by_cases c43 : a0 = 4
                · rw [if_pos c43] at H
                  have c43b0 : (a0 == 4) = true := beq_iff_eq.mpr c43
                  have c43b1 : (a0 != 4) = false := bne_eq_false_iff_eq.mpr c43
                  clear c43
                  (first | rw [c43b0] | (simp only [i64_w, i32_w]; rw [c43b0]) | skip)
                  have H' := Aside0.mk H
                  clear H
                  go_wp2
                  go_meet
                  case rel => exact ⟨_, ((a0 == 4)), (by first | rfl | (simp; done) | (simp [*]; done)), H', ⟨by have := HJ2.out; first | omega | exact Nat.le_refl _⟩, ⟨by (with_reducible repeat (first | refine blk_drewN ?_ _ | refine blk_drew ?_ | refine blk_alloc ?_ _)); exact BK181.out⟩, ⟨by repeat (first | (with_reducible first | exact HB.out | apply below_alloc | apply pw_below_drewN | apply below_drew1 | refine below_set ?_ GE181.out) | exact HB.out)⟩⟩
                · rw [if_neg c43] at H
                  have c43b0 : (a0 == 4) = false := beq_eq_false_iff_ne.mpr c43
                  have c43b1 : (a0 != 4) = true := bne_iff_ne.mpr c43
                  (first | rw [c43b0] | (simp only [i64_w, i32_w]; rw [c43b0]) | skip)
                  have H' := Aside0.mk H
                  clear H
                  go_wp2
                  go_meet
                  case rel => exact ⟨_, ((a0 == 5)), (by first | rfl | (simp; done) | (simp [*]; done)), H', ⟨by have := HJ2.out; first | omega | exact Nat.le_refl _⟩, ⟨by (with_reducible repeat (first | refine blk_drewN ?_ _ | refine blk_drew ?_ | refine blk_alloc ?_ _)); exact BK181.out⟩, ⟨by repeat (first | (with_reducible first | exact HB.out | apply below_alloc | apply pw_below_drewN | apply below_drew1 | refine below_set ?_ GE181.out) | exact HB.out)⟩⟩
              case rest =>
                clear HC40
                try clear c1
                try clear p1
                try clear q1
                try clear hx1
                try clear qi1
                try clear c2
                try clear p2
                try clear c4
                try clear c5
                try clear c5b0
                try clear c6
                try clear c9
                try clear c9b0
                try clear c9b1
                try clear c9b2
                try clear c10
                try clear c10b0
                try clear c10b1
                try clear c11
                try clear c11b0
                try clear c11b1
                try clear c12
                try clear c12b0
                try clear c12b1
                try clear c13
                try clear c13b0
                try clear c13b1
                try clear c14
                try clear c14b0
                try clear c14b1
                try clear c15
                try clear c15b0
                try clear c15b1
                try clear c16
                try clear c18
                try clear p18
                try clear q18
                try clear hx18
                try clear qi18
                try clear p19
                try clear q19
                try clear hx19
                try clear qi19
                try clear c26
                try clear c26b0
                try clear c26b1
                try clear c27
                try clear c27b0
                try clear c27b1
                try clear c28
                try clear c28b0
                try clear c28b1
                try clear c29
                try clear c29b0
                try clear c29b1
                try clear c43
                try clear c43b0
                try clear c43b1
                try clear hcz7_0
                try clear hcz7_1
                try clear hcz7_2
                try clear hcz7_3
                try clear hcz7_4
                try clear hcz7_5
                try clear hcz7_6
                try clear hfz7_0
                try clear hfz7_1
                try clear hfz7_2
                try clear hfz7_3
                try clear hfz7_4
                try clear hfz7_5
                try clear hfz7_6
                try clear hx185_0
                try clear hx186_0
                try clear hx187_0
                try clear hx188_0
                try clear hx189_0
                try clear hx190_0
                try clear hx191_0
                try clear hx192_0
                try clear p185
                try clear p186
                try clear p187
                try clear p188
                try clear p189
                try clear p190
                try clear p191
                try clear p192
                try clear p2
                try clear q185
                try clear q186
                try clear q187
                try clear q188
                try clear q189
                try clear q190
                try clear q191
                try clear q192
                obtain ⟨kq, x52_39, rfl, HA, HJ39, BK181, HB⟩ := hcut
                cases kq with
                | zero => exact absurd HA.out (by simp [chamberlainref11_Get.j1])
                | succ kj39 =>
                  have H := HA.out
                  clear HA
                  simp only [chamberlainref11_Get.j1] at H
                  by_cases c44 : x52_39 = true
                  · subst c44
                    have H1 : (if 0 < (l1.length : Int) then (some (rd l1 0, 0, 0, 0, 0, 0, 0, 0)) else (none)) = some (r1, r2, r3, r4, r5, r6, r7, r8) := by rw [if_pos rfl] at H; exact H
                    clear H
                    have H := H1
                    clear H1
                    by_cases c45 : 0 < (l1.length : Int)
                    · rw [if_pos c45] at H
                      have c45b0 : decide (0 < (l1.length : Int)) = true := decide_eq_true c45
                      have c45b1 : decide (0 < l1.length) = true := decide_eq_true (by omega)
                      clear c45
                      simp only [Option.some.injEq, Prod.mk.injEq] at H
                      obtain ⟨rfl, rfl, rfl, rfl, rfl, rfl, rfl, rfl⟩ := H
                      have p193 : 0 ≤ (0 : Int) := (by omega)
                      have q193 : 0 < (l1.length : Int) := of_decide_eq_true (by first | (with_reducible assumption) | assumption)
                      obtain ⟨ad193, e193, hx193_0⟩ := Kd.at_int HR1.out 0 p193 q193
                      cases e193
                      have qi193 : (0 < l1.length) = True := eq_true (by omega)
                      (try rw [show ((0 : Int)).toNat = 0 from rfl] at hx193_0)
                      (try rw [Addr.add_zero'] at hx193_0)
                      replace hx193_0 := (HB.out.cell (World.block_lt_of_cell? w _ hx193_0)).trans hx193_0
                      replace p193 := eq_true p193
                      replace q193 := eq_true q193
                      have hcz46_0 : wc.cell? ⟨gb181, 0, none⟩ = some (.int .u32 0) := (blk_cell BK181.out 0).trans rfl
                      have hcz46_1 : wc.cell? ⟨gb181, 1, none⟩ = some (.int .u32 0) := (blk_cell BK181.out 1).trans rfl
                      have hcz46_2 : wc.cell? ⟨gb181, 2, none⟩ = some (.int .u32 0) := (blk_cell BK181.out 2).trans rfl
                      have hcz46_3 : wc.cell? ⟨gb181, 3, none⟩ = some (.int .u32 0) := (blk_cell BK181.out 3).trans rfl
                      have hcz46_4 : wc.cell? ⟨gb181, 4, none⟩ = some (.int .u32 0) := (blk_cell BK181.out 4).trans rfl
                      have hcz46_5 : wc.cell? ⟨gb181, 5, none⟩ = some (.int .u32 0) := (blk_cell BK181.out 5).trans rfl
                      have hcz46_6 : wc.cell? ⟨gb181, 6, none⟩ = some (.int .u32 0) := (blk_cell BK181.out 6).trans rfl
                      have hfz46_0 := blk_frozen BK181.out 0
                      have hfz46_1 := blk_frozen BK181.out 1
                      have hfz46_2 := blk_frozen BK181.out 2
                      have hfz46_3 := blk_frozen BK181.out 3
                      have hfz46_4 := blk_frozen BK181.out 4
                      have hfz46_5 := blk_frozen BK181.out 5
                      have hfz46_6 := blk_frozen BK181.out 6
                      go_wp2
                      refine bodyPost_ret (results_ct rfl _ _ gb181 24 #[.int .u32 (rd l1 0), .int .u32 0, .int .u32 0, .int .u32 0, .int .u32 0, .int .u32 0, .int .u32 0] (0, 0) _ rfl (by (with_reducible repeat (first | refine blk_drewN ?_ _ | refine blk_drew ?_ | refine blk_alloc ?_ _)); refine blk_put (cs := #[.int .u32 (rd l1 0), .int .u32 0, .int .u32 0, .int .u32 0, .int .u32 0, .int .u32 0, .int .u32 0]) ?_ 6 _ rfl; (with_reducible repeat (first | refine blk_drewN ?_ _ | refine blk_drew ?_ | refine blk_alloc ?_ _)); refine blk_put (cs := #[.int .u32 (rd l1 0), .int .u32 0, .int .u32 0, .int .u32 0, .int .u32 0, .int .u32 0, .int .u32 0]) ?_ 5 _ rfl; (with_reducible repeat (first | refine blk_drewN ?_ _ | refine blk_drew ?_ | refine blk_alloc ?_ _)); refine blk_put (cs := #[.int .u32 (rd l1 0), .int .u32 0, .int .u32 0, .int .u32 0, .int .u32 0, .int .u32 0, .int .u32 0]) ?_ 4 _ rfl; (with_reducible repeat (first | refine blk_drewN ?_ _ | refine blk_drew ?_ | refine blk_alloc ?_ _)); refine blk_put (cs := #[.int .u32 (rd l1 0), .int .u32 0, .int .u32 0, .int .u32 0, .int .u32 0, .int .u32 0, .int .u32 0]) ?_ 3 _ rfl; (with_reducible repeat (first | refine blk_drewN ?_ _ | refine blk_drew ?_ | refine blk_alloc ?_ _)); refine blk_put (cs := #[.int .u32 (rd l1 0), .int .u32 0, .int .u32 0, .int .u32 0, .int .u32 0, .int .u32 0, .int .u32 0]) ?_ 2 _ rfl; (with_reducible repeat (first | refine blk_drewN ?_ _ | refine blk_drew ?_ | refine blk_alloc ?_ _)); refine blk_put (cs := #[.int .u32 (rd l1 0), .int .u32 0, .int .u32 0, .int .u32 0, .int .u32 0, .int .u32 0, .int .u32 0]) ?_ 1 _ rfl; (with_reducible repeat (first | refine blk_drewN ?_ _ | refine blk_drew ?_ | refine blk_alloc ?_ _)); refine blk_put (cs := #[.int .u32 0, .int .u32 0, .int .u32 0, .int .u32 0, .int .u32 0, .int .u32 0, .int .u32 0]) ?_ 0 _ rfl; (with_reducible repeat (first | refine blk_drewN ?_ _ | refine blk_drew ?_ | refine blk_alloc ?_ _)); exact BK181.out) Try.underlying24 rfl (by kernel_rfl)) rfl ?_
                      exact ⟨by first | rfl | (simp [errW_none, errW_some] <;> rfl) | (simp [*, errW_none, errW_some] <;> rfl), by repeat (first | (with_reducible first | exact HB.out | apply below_alloc | apply pw_below_drewN | apply below_drew1 | refine below_set ?_ GE181.out) | exact HB.out)⟩
                    · rw [if_neg c45] at H
                      exact absurd H (by simp)
                  · replace c44 := Bool.eq_false_iff.mpr c44
                    subst c44
                    have H1 : (if a0 = 6 then (if 0 < (l1.length : Int) then (if 1 < (l1.length : Int) then (if 2 < (l1.length : Int) then (if 3 < (l1.length : Int) then (some (rd l1 0, rd l1 1, rd l1 2, rd l1 3, 0, 0, 0, 0)) else (none)) else (none)) else (none)) else (none)) else (if a0 = 7 then (if 0 < (l1.length : Int) then (if 1 < (l1.length : Int) then (if 2 < (l1.length : Int) then (if 3 < (l1.length : Int) then (some (rd l1 0, rd l1 1, rd l1 2, rd l1 3, 0, 0, 0, 0)) else (none)) else (none)) else (none)) else (none)) else (if 0 < (l1.length : Int) then (if 1 < (l1.length : Int) then (some (rd l1 0, 0, 0, 0, rd l1 1, 0, 0, 0)) else (none)) else (none)))) = some (r1, r2, r3, r4, r5, r6, r7, r8) := by rw [if_neg (show ¬ (false = true) by decide)] at H; exact H
                    clear H
                    have H := H1
                    clear H1
                    by_cases c47 : a0 = 6
                    · rw [if_pos c47] at H
                      have c47b0 : (a0 == 6) = true := beq_iff_eq.mpr c47
                      have c47b1 : (a0 != 6) = false := bne_eq_false_iff_eq.mpr c47
                      clear c47
                      by_cases c48 : 0 < (l1.length : Int)
                      · rw [if_pos c48] at H
                        have c48b0 : decide (0 < (l1.length : Int)) = true := decide_eq_true c48
                        have c48b1 : decide (0 < l1.length) = true := decide_eq_true (by omega)
                        clear c48
                        by_cases c49 : 1 < (l1.length : Int)
                        · rw [if_pos c49] at H
                          have c49b0 : decide (1 < (l1.length : Int)) = true := decide_eq_true c49
                          have c49b1 : decide (1 < l1.length) = true := decide_eq_true (by omega)
                          clear c49
                          by_cases c50 : 2 < (l1.length : Int)
                          · rw [if_pos c50] at H
                            have c50b0 : decide (2 < (l1.length : Int)) = true := decide_eq_true c50
                            have c50b1 : decide (2 < l1.length) = true := decide_eq_true (by omega)
                            clear c50
                            by_cases c51 : 3 < (l1.length : Int)
                            · rw [if_pos c51] at H
                              have c51b0 : decide (3 < (l1.length : Int)) = true := decide_eq_true c51
                              have c51b1 : decide (3 < l1.length) = true := decide_eq_true (by omega)
                              clear c51
                              simp only [Option.some.injEq, Prod.mk.injEq] at H
                              obtain ⟨rfl, rfl, rfl, rfl, rfl, rfl, rfl, rfl⟩ := H
                              try go_wp2
                              have n0_ := Aside0.mk (blk_drew BK181.out)
                              have n1_ := Aside0.mk (below_drew1 HB.out)
                              clear BK181
                              clear HB
                              have BK181 := n0_
                              have HB := n1_
                              clear n0_ n1_
                              have p194 : 0 ≤ (0 : Int) := (by omega)
                              have q194 : 0 < (l1.length : Int) := of_decide_eq_true (by first | (with_reducible assumption) | assumption)
                              obtain ⟨ad194, e194, hx194_0⟩ := Kd.at_int HR1.out 0 p194 q194
                              have hw194_0 := hx194_0
                              (try rw [show ((0 : Int)).toNat = 0 from rfl] at hw194_0)
                              (try rw [show 0 * 1 = 0 from rfl] at hw194_0)
                              (try rw [Addr.add_zero'] at hw194_0)
                              cases e194
                              have qi194 : (0 < l1.length) = True := eq_true (by omega)
                              (try rw [show ((0 : Int)).toNat = 0 from rfl] at hx194_0)
                              (try rw [Addr.add_zero'] at hx194_0)
                              replace hx194_0 := (HB.out.cell (World.block_lt_of_cell? w _ hx194_0)).trans hx194_0
                              replace p194 := eq_true p194
                              replace q194 := eq_true q194
                              have p195 : 0 ≤ (1 : Int) := (by omega)
                              have q195 : 1 < (l1.length : Int) := of_decide_eq_true (by first | (with_reducible assumption) | assumption)
                              obtain ⟨ad195, e195, hx195_0⟩ := Kd.at_int HR1.out 1 p195 q195
                              have hw195_0 := hx195_0
                              (try rw [show ((1 : Int)).toNat = 1 from rfl] at hw195_0)
                              (try rw [show 1 * 1 = 1 from rfl] at hw195_0)
                              (try simp only [Nat.reduceMul, Nat.reduceEqDiff, Go.Addr.add, ↓reduceIte] at hw195_0)
                              obtain rfl : ad194 = ad195 := (by injection e195)
                              (try simp only [show (1 : Int).toNat = 1 from rfl, Nat.reduceMul, Nat.reduceEqDiff, Go.Addr.add, ↓reduceIte] at hx195_0)
                              have qi195 : (1 < l1.length) = True := eq_true (by omega)
                              (try rw [show ((1 : Int)).toNat = 1 from rfl] at hx195_0)
                              replace hx195_0 := (HB.out.cell (World.block_lt_of_cell? w _ hx195_0)).trans hx195_0
                              replace p195 := eq_true p195
                              replace q195 := eq_true q195
                              have p196 : 0 ≤ (2 : Int) := (by omega)
                              have q196 : 2 < (l1.length : Int) := of_decide_eq_true (by first | (with_reducible assumption) | assumption)
                              obtain ⟨ad196, e196, hx196_0⟩ := Kd.at_int HR1.out 2 p196 q196
                              have hw196_0 := hx196_0
                              (try rw [show ((2 : Int)).toNat = 2 from rfl] at hw196_0)
                              (try rw [show 2 * 1 = 2 from rfl] at hw196_0)
                              (try simp only [Nat.reduceMul, Nat.reduceEqDiff, Go.Addr.add, ↓reduceIte] at hw196_0)
                              obtain rfl : ad194 = ad196 := (by injection e196)
                              (try simp only [show (2 : Int).toNat = 2 from rfl, Nat.reduceMul, Nat.reduceEqDiff, Go.Addr.add, ↓reduceIte] at hx196_0)
                              have qi196 : (2 < l1.length) = True := eq_true (by omega)
                              (try rw [show ((2 : Int)).toNat = 2 from rfl] at hx196_0)
                              replace hx196_0 := (HB.out.cell (World.block_lt_of_cell? w _ hx196_0)).trans hx196_0
                              replace p196 := eq_true p196
                              replace q196 := eq_true q196
                              have p197 : 0 ≤ (3 : Int) := (by omega)
                              have q197 : 3 < (l1.length : Int) := of_decide_eq_true (by first | (with_reducible assumption) | assumption)
                              obtain ⟨ad197, e197, hx197_0⟩ := Kd.at_int HR1.out 3 p197 q197
                              have hw197_0 := hx197_0
                              (try rw [show ((3 : Int)).toNat = 3 from rfl] at hw197_0)
                              (try rw [show 3 * 1 = 3 from rfl] at hw197_0)
                              (try simp only [Nat.reduceMul, Nat.reduceEqDiff, Go.Addr.add, ↓reduceIte] at hw197_0)
                              obtain rfl : ad194 = ad197 := (by injection e197)
                              (try simp only [show (3 : Int).toNat = 3 from rfl, Nat.reduceMul, Nat.reduceEqDiff, Go.Addr.add, ↓reduceIte] at hx197_0)
                              have qi197 : (3 < l1.length) = True := eq_true (by omega)
                              (try rw [show ((3 : Int)).toNat = 3 from rfl] at hx197_0)
                              replace hx197_0 := (HB.out.cell (World.block_lt_of_cell? w _ hx197_0)).trans hx197_0
                              replace p197 := eq_true p197
                              replace q197 := eq_true q197
                              refine start_ (n := 15) (S := fun w' => w'.cell? ad194 = some (.int .u32 (rd l1 0)) ∧ w'.cell? ⟨ad194.block, ad194.off + 1, none⟩ = some (.int .u32 (rd l1 1)) ∧ w'.cell? ⟨ad194.block, ad194.off + 2, none⟩ = some (.int .u32 (rd l1 2)) ∧ w'.cell? ⟨ad194.block, ad194.off + 3, none⟩ = some (.int .u32 (rd l1 3))) (ds := []) #[false, false, false, false, false, false, false, false, false, false, false, false, false, false, false] (by kernel_rfl) rfl rfl ⟨((HB.out.cell (World.block_lt_of_cell? w _ hw194_0)).trans hw194_0), ((HB.out.cell (World.block_lt_of_cell? w _ hw195_0)).trans hw195_0), ((HB.out.cell (World.block_lt_of_cell? w _ hw196_0)).trans hw196_0), ((HB.out.cell (World.block_lt_of_cell? w _ hw197_0)).trans hw197_0)⟩ (fun hHeld => ?_); refine with_tabW chamberlainref11_Get.tab15 chamberlainref11_Get.bits15 (fun HT_ HW_ => ?_)
                              generalize wc.drew = w52 at BK181 HB hx194_0 hx195_0 hx196_0 hx197_0 hHeld ⊢
                              refine pure_ (i := 0) (N := some 62) (v := ?_) (a' := ?_) #[true, false, false, false, false, false, false, false, false, false, false, false, false, false, false] rfl rfl (any_of HT_.out (by kernel_rfl)) (fun _ _ _ h => h) (Or.inl ⟨by rfl, ?_⟩) ?_ ?_
                              rotate_left
                              · intro w'
                                go_simp
                                with_reducible rfl
                              rotate_left
                              · simp only [Act.put, List.setIfInBounds_toArray, List.set_cons_zero, List.set_cons_succ, i64_w, i32_w]
                                rfl
                              refine pure_ (i := 1) (N := some 63) (v := ?_) (a' := ?_) #[true, true, false, false, false, false, false, false, false, false, false, false, false, false, false] rfl rfl (any_of HT_.out (by kernel_rfl)) (fun _ _ _ h => h) (Or.inl ⟨by rfl, ?_⟩) ?_ ?_
                              rotate_left
                              · intro w'
                                go_simp
                                with_reducible rfl
                              rotate_left
                              · simp only [Act.put, List.setIfInBounds_toArray, List.set_cons_zero, List.set_cons_succ, i64_w, i32_w]
                                rfl
                              refine pure_ (i := 3) (N := some 65) (v := ?_) (a' := ?_) #[true, true, false, true, false, false, false, false, false, false, false, false, false, false, false] rfl rfl (any_of HT_.out (by kernel_rfl)) (fun _ _ _ h => h) (Or.inl ⟨by rfl, ?_⟩) ?_ ?_
                              rotate_left
                              · intro w'
                                go_simp
                                with_reducible rfl
                              rotate_left
                              · simp only [Act.put, List.setIfInBounds_toArray, List.set_cons_zero, List.set_cons_succ, i64_w, i32_w]
                                rfl
                              refine pure_ (i := 4) (N := some 66) (v := ?_) (a' := ?_) #[true, true, false, true, true, false, false, false, false, false, false, false, false, false, false] rfl rfl (any_of HT_.out (by kernel_rfl)) (fun _ _ _ h => h) (Or.inl ⟨by rfl, ?_⟩) ?_ ?_
                              rotate_left
                              · intro w'
                                go_simp
                                with_reducible rfl
                              rotate_left
                              · simp only [Act.put, List.setIfInBounds_toArray, List.set_cons_zero, List.set_cons_succ, i64_w, i32_w]
                                rfl
                              refine pure_ (i := 6) (N := some 68) (v := ?_) (a' := ?_) #[true, true, false, true, true, false, true, false, false, false, false, false, false, false, false] rfl rfl (any_of HT_.out (by kernel_rfl)) (fun _ _ _ h => h) (Or.inl ⟨by rfl, ?_⟩) ?_ ?_
                              rotate_left
                              · intro w'
                                go_simp
                                with_reducible rfl
                              rotate_left
                              · simp only [Act.put, List.setIfInBounds_toArray, List.set_cons_zero, List.set_cons_succ, i64_w, i32_w]
                                rfl
                              refine pure_ (i := 7) (N := some 69) (v := ?_) (a' := ?_) #[true, true, false, true, true, false, true, true, false, false, false, false, false, false, false] rfl rfl (any_of HT_.out (by kernel_rfl)) (fun _ _ _ h => h) (Or.inl ⟨by rfl, ?_⟩) ?_ ?_
                              rotate_left
                              · intro w'
                                go_simp
                                with_reducible rfl
                              rotate_left
                              · simp only [Act.put, List.setIfInBounds_toArray, List.set_cons_zero, List.set_cons_succ, i64_w, i32_w]
                                rfl
                              refine pure_ (i := 9) (N := some 71) (v := ?_) (a' := ?_) #[true, true, false, true, true, false, true, true, false, true, false, false, false, false, false] rfl rfl (any_of HT_.out (by kernel_rfl)) (fun _ _ _ h => h) (Or.inl ⟨by rfl, ?_⟩) ?_ ?_
                              rotate_left
                              · intro w'
                                go_simp
                                with_reducible rfl
                              rotate_left
                              · simp only [Act.put, List.setIfInBounds_toArray, List.set_cons_zero, List.set_cons_succ, i64_w, i32_w]
                                rfl
                              refine pure_ (i := 10) (N := some 72) (v := ?_) (a' := ?_) #[true, true, false, true, true, false, true, true, false, true, true, false, false, false, false] rfl rfl (any_of HT_.out (by kernel_rfl)) (fun _ _ _ h => h) (Or.inl ⟨by rfl, ?_⟩) ?_ ?_
                              rotate_left
                              · intro w'
                                go_simp
                                with_reducible rfl
                              rotate_left
                              · simp only [Act.put, List.setIfInBounds_toArray, List.set_cons_zero, List.set_cons_succ, i64_w, i32_w]
                                rfl
                              refine take_ (i := 2) (N := some 64) (v := ?_) (a' := ?_) #[true, true, true, true, true, false, true, true, false, true, true, false, false, false, false] rfl rfl (take_ofW HT_.out HW_.out (by kernel_rfl)) (fun _ _ _ h => h) (Or.inl ⟨by rfl, ?_⟩) hHeld ?_ ?_
                              rotate_left
                              · rintro w' ⟨s0, s1, s2, s3⟩
                                go_simp
                                with_reducible rfl
                              rotate_left
                              · simp only [Act.put, List.setIfInBounds_toArray, List.set_cons_zero, List.set_cons_succ, i64_w, i32_w]
                                rfl
                              refine take_ (i := 5) (N := some 67) (v := ?_) (a' := ?_) #[true, true, true, true, true, true, true, true, false, true, true, false, false, false, false] rfl rfl (take_ofW HT_.out HW_.out (by kernel_rfl)) (fun _ _ _ h => h) (Or.inl ⟨by rfl, ?_⟩) hHeld ?_ ?_
                              rotate_left
                              · rintro w' ⟨s0, s1, s2, s3⟩
                                go_simp
                                with_reducible rfl
                              rotate_left
                              · simp only [Act.put, List.setIfInBounds_toArray, List.set_cons_zero, List.set_cons_succ, i64_w, i32_w]
                                rfl
                              refine take_ (i := 8) (N := some 70) (v := ?_) (a' := ?_) #[true, true, true, true, true, true, true, true, true, true, true, false, false, false, false] rfl rfl (take_ofW HT_.out HW_.out (by kernel_rfl)) (fun _ _ _ h => h) (Or.inl ⟨by rfl, ?_⟩) hHeld ?_ ?_
                              rotate_left
                              · rintro w' ⟨s0, s1, s2, s3⟩
                                go_simp
                                with_reducible rfl
                              rotate_left
                              · simp only [Act.put, List.setIfInBounds_toArray, List.set_cons_zero, List.set_cons_succ, i64_w, i32_w]
                                rfl
                              refine take_ (i := 11) (N := some 73) (v := ?_) (a' := ?_) #[true, true, true, true, true, true, true, true, true, true, true, true, false, false, false] rfl rfl (take_ofW HT_.out HW_.out (by kernel_rfl)) (fun _ _ _ h => h) (Or.inl ⟨by rfl, ?_⟩) hHeld ?_ ?_
                              rotate_left
                              · rintro w' ⟨s0, s1, s2, s3⟩
                                go_simp
                                with_reducible rfl
                              rotate_left
                              · simp only [Act.put, List.setIfInBounds_toArray, List.set_cons_zero, List.set_cons_succ, i64_w, i32_w]
                                rfl
                              refine pure_ (i := 12) (N := some 74) (v := ?_) (a' := ?_) #[true, true, true, true, true, true, true, true, true, true, true, true, true, false, false] rfl rfl (any_of HT_.out (by kernel_rfl)) (fun _ _ _ h => h) (Or.inl ⟨by rfl, ?_⟩) ?_ ?_
                              rotate_left
                              · intro w'
                                go_simp
                                with_reducible rfl
                              rotate_left
                              · simp only [Act.put, List.setIfInBounds_toArray, List.set_cons_zero, List.set_cons_succ, i64_w, i32_w]
                                rfl
                              refine one_ (i := 13) (N := none) #[true, true, true, true, true, true, true, true, true, true, true, true, true, true, false] rfl rfl (one_of HT_.out (by kernel_rfl)) (by decide) (fun K hK => ?_)
                              have hs53 : w52.cell? ⟨gb181, 0, none⟩ = some (.int .u32 0) := (blk_cell BK181.out 0).trans rfl
                              have hfs53 := blk_frozen BK181.out 0
                              have hs54 : w52.cell? ⟨gb181, 1, none⟩ = some (.int .u32 0) := (blk_cell BK181.out 1).trans rfl
                              have hfs54 := blk_frozen BK181.out 1
                              have hs55 : w52.cell? ⟨gb181, 2, none⟩ = some (.int .u32 0) := (blk_cell BK181.out 2).trans rfl
                              have hfs55 := blk_frozen BK181.out 2
                              have hs56 : w52.cell? ⟨gb181, 3, none⟩ = some (.int .u32 0) := (blk_cell BK181.out 3).trans rfl
                              have hfs56 := blk_frozen BK181.out 3
                              have hs57 : w52.cell? ⟨gb181, 4, none⟩ = some (.int .u32 0) := (blk_cell BK181.out 4).trans rfl
                              have hfs57 := blk_frozen BK181.out 4
                              have hs58 : w52.cell? ⟨gb181, 5, none⟩ = some (.int .u32 0) := (blk_cell BK181.out 5).trans rfl
                              have hfs58 := blk_frozen BK181.out 5
                              have hs59 : w52.cell? ⟨gb181, 6, none⟩ = some (.int .u32 0) := (blk_cell BK181.out 6).trans rfl
                              have hfs59 := blk_frozen BK181.out 6
                              refine skip_ (w1 := ?_) (by rfl) rfl ?_ ?_
                              rotate_left
                              · go_simp
                                rfl
                              refine hK.out _ _ ⟨((cell_far (p := ⟨gb181, _, none⟩) (by first | exact Nat.ne_of_lt (Nat.lt_of_lt_of_le (by have := World.block_lt_of_cell? _ _ hw194_0; first | rwa [add_block] at this | exact this) GW181.out) | (rw [add_block]; exact Nat.ne_of_lt (Nat.lt_of_lt_of_le (by have := World.block_lt_of_cell? _ _ hw194_0; first | rwa [add_block] at this | exact this) GW181.out)) | (show (Addr.add _ _).block ≠ _; rw [add_block]; exact Nat.ne_of_lt (Nat.lt_of_lt_of_le (by have := World.block_lt_of_cell? _ _ hw194_0; first | rwa [add_block] at this | exact this) GW181.out)) | (dsimp only; exact Nat.ne_of_lt (Nat.lt_of_lt_of_le (by have := World.block_lt_of_cell? _ _ hw194_0; first | rwa [add_block] at this | exact this) GW181.out))) _).trans (((cell_far (p := ⟨gb181, _, none⟩) (by first | exact Nat.ne_of_lt (Nat.lt_of_lt_of_le (by have := World.block_lt_of_cell? _ _ hw194_0; first | rwa [add_block] at this | exact this) GW181.out) | (rw [add_block]; exact Nat.ne_of_lt (Nat.lt_of_lt_of_le (by have := World.block_lt_of_cell? _ _ hw194_0; first | rwa [add_block] at this | exact this) GW181.out)) | (show (Addr.add _ _).block ≠ _; rw [add_block]; exact Nat.ne_of_lt (Nat.lt_of_lt_of_le (by have := World.block_lt_of_cell? _ _ hw194_0; first | rwa [add_block] at this | exact this) GW181.out)) | (dsimp only; exact Nat.ne_of_lt (Nat.lt_of_lt_of_le (by have := World.block_lt_of_cell? _ _ hw194_0; first | rwa [add_block] at this | exact this) GW181.out))) _).trans (((cell_far (p := ⟨gb181, _, none⟩) (by first | exact Nat.ne_of_lt (Nat.lt_of_lt_of_le (by have := World.block_lt_of_cell? _ _ hw194_0; first | rwa [add_block] at this | exact this) GW181.out) | (rw [add_block]; exact Nat.ne_of_lt (Nat.lt_of_lt_of_le (by have := World.block_lt_of_cell? _ _ hw194_0; first | rwa [add_block] at this | exact this) GW181.out)) | (show (Addr.add _ _).block ≠ _; rw [add_block]; exact Nat.ne_of_lt (Nat.lt_of_lt_of_le (by have := World.block_lt_of_cell? _ _ hw194_0; first | rwa [add_block] at this | exact this) GW181.out)) | (dsimp only; exact Nat.ne_of_lt (Nat.lt_of_lt_of_le (by have := World.block_lt_of_cell? _ _ hw194_0; first | rwa [add_block] at this | exact this) GW181.out))) _).trans (((cell_far (p := ⟨gb181, _, none⟩) (by first | exact Nat.ne_of_lt (Nat.lt_of_lt_of_le (by have := World.block_lt_of_cell? _ _ hw194_0; first | rwa [add_block] at this | exact this) GW181.out) | (rw [add_block]; exact Nat.ne_of_lt (Nat.lt_of_lt_of_le (by have := World.block_lt_of_cell? _ _ hw194_0; first | rwa [add_block] at this | exact this) GW181.out)) | (show (Addr.add _ _).block ≠ _; rw [add_block]; exact Nat.ne_of_lt (Nat.lt_of_lt_of_le (by have := World.block_lt_of_cell? _ _ hw194_0; first | rwa [add_block] at this | exact this) GW181.out)) | (dsimp only; exact Nat.ne_of_lt (Nat.lt_of_lt_of_le (by have := World.block_lt_of_cell? _ _ hw194_0; first | rwa [add_block] at this | exact this) GW181.out))) _).trans (((cell_far (p := ⟨gb181, _, none⟩) (by first | exact Nat.ne_of_lt (Nat.lt_of_lt_of_le (by have := World.block_lt_of_cell? _ _ hw194_0; first | rwa [add_block] at this | exact this) GW181.out) | (rw [add_block]; exact Nat.ne_of_lt (Nat.lt_of_lt_of_le (by have := World.block_lt_of_cell? _ _ hw194_0; first | rwa [add_block] at this | exact this) GW181.out)) | (show (Addr.add _ _).block ≠ _; rw [add_block]; exact Nat.ne_of_lt (Nat.lt_of_lt_of_le (by have := World.block_lt_of_cell? _ _ hw194_0; first | rwa [add_block] at this | exact this) GW181.out)) | (dsimp only; exact Nat.ne_of_lt (Nat.lt_of_lt_of_le (by have := World.block_lt_of_cell? _ _ hw194_0; first | rwa [add_block] at this | exact this) GW181.out))) _).trans (((cell_far (p := ⟨gb181, _, none⟩) (by first | exact Nat.ne_of_lt (Nat.lt_of_lt_of_le (by have := World.block_lt_of_cell? _ _ hw194_0; first | rwa [add_block] at this | exact this) GW181.out) | (rw [add_block]; exact Nat.ne_of_lt (Nat.lt_of_lt_of_le (by have := World.block_lt_of_cell? _ _ hw194_0; first | rwa [add_block] at this | exact this) GW181.out)) | (show (Addr.add _ _).block ≠ _; rw [add_block]; exact Nat.ne_of_lt (Nat.lt_of_lt_of_le (by have := World.block_lt_of_cell? _ _ hw194_0; first | rwa [add_block] at this | exact this) GW181.out)) | (dsimp only; exact Nat.ne_of_lt (Nat.lt_of_lt_of_le (by have := World.block_lt_of_cell? _ _ hw194_0; first | rwa [add_block] at this | exact this) GW181.out))) _).trans (((cell_far (p := ⟨gb181, _, none⟩) (by first | exact Nat.ne_of_lt (Nat.lt_of_lt_of_le (by have := World.block_lt_of_cell? _ _ hw194_0; first | rwa [add_block] at this | exact this) GW181.out) | (rw [add_block]; exact Nat.ne_of_lt (Nat.lt_of_lt_of_le (by have := World.block_lt_of_cell? _ _ hw194_0; first | rwa [add_block] at this | exact this) GW181.out)) | (show (Addr.add _ _).block ≠ _; rw [add_block]; exact Nat.ne_of_lt (Nat.lt_of_lt_of_le (by have := World.block_lt_of_cell? _ _ hw194_0; first | rwa [add_block] at this | exact this) GW181.out)) | (dsimp only; exact Nat.ne_of_lt (Nat.lt_of_lt_of_le (by have := World.block_lt_of_cell? _ _ hw194_0; first | rwa [add_block] at this | exact this) GW181.out))) _).trans (hHeld.1)))))))))))))), ((cell_far (p := ⟨gb181, _, none⟩) (by first | exact Nat.ne_of_lt (Nat.lt_of_lt_of_le (by have := World.block_lt_of_cell? _ _ hw195_0; first | rwa [add_block] at this | exact this) GW181.out) | (rw [add_block]; exact Nat.ne_of_lt (Nat.lt_of_lt_of_le (by have := World.block_lt_of_cell? _ _ hw195_0; first | rwa [add_block] at this | exact this) GW181.out)) | (show (Addr.add _ _).block ≠ _; rw [add_block]; exact Nat.ne_of_lt (Nat.lt_of_lt_of_le (by have := World.block_lt_of_cell? _ _ hw195_0; first | rwa [add_block] at this | exact this) GW181.out)) | (dsimp only; exact Nat.ne_of_lt (Nat.lt_of_lt_of_le (by have := World.block_lt_of_cell? _ _ hw195_0; first | rwa [add_block] at this | exact this) GW181.out))) _).trans (((cell_far (p := ⟨gb181, _, none⟩) (by first | exact Nat.ne_of_lt (Nat.lt_of_lt_of_le (by have := World.block_lt_of_cell? _ _ hw195_0; first | rwa [add_block] at this | exact this) GW181.out) | (rw [add_block]; exact Nat.ne_of_lt (Nat.lt_of_lt_of_le (by have := World.block_lt_of_cell? _ _ hw195_0; first | rwa [add_block] at this | exact this) GW181.out)) | (show (Addr.add _ _).block ≠ _; rw [add_block]; exact Nat.ne_of_lt (Nat.lt_of_lt_of_le (by have := World.block_lt_of_cell? _ _ hw195_0; first | rwa [add_block] at this | exact this) GW181.out)) | (dsimp only; exact Nat.ne_of_lt (Nat.lt_of_lt_of_le (by have := World.block_lt_of_cell? _ _ hw195_0; first | rwa [add_block] at this | exact this) GW181.out))) _).trans (((cell_far (p := ⟨gb181, _, none⟩) (by first | exact Nat.ne_of_lt (Nat.lt_of_lt_of_le (by have := World.block_lt_of_cell? _ _ hw195_0; first | rwa [add_block] at this | exact this) GW181.out) | (rw [add_block]; exact Nat.ne_of_lt (Nat.lt_of_lt_of_le (by have := World.block_lt_of_cell? _ _ hw195_0; first | rwa [add_block] at this | exact this) GW181.out)) | (show (Addr.add _ _).block ≠ _; rw [add_block]; exact Nat.ne_of_lt (Nat.lt_of_lt_of_le (by have := World.block_lt_of_cell? _ _ hw195_0; first | rwa [add_block] at this | exact this) GW181.out)) | (dsimp only; exact Nat.ne_of_lt (Nat.lt_of_lt_of_le (by have := World.block_lt_of_cell? _ _ hw195_0; first | rwa [add_block] at this | exact this) GW181.out))) _).trans (((cell_far (p := ⟨gb181, _, none⟩) (by first | exact Nat.ne_of_lt (Nat.lt_of_lt_of_le (by have := World.block_lt_of_cell? _ _ hw195_0; first | rwa [add_block] at this | exact this) GW181.out) | (rw [add_block]; exact Nat.ne_of_lt (Nat.lt_of_lt_of_le (by have := World.block_lt_of_cell? _ _ hw195_0; first | rwa [add_block] at this | exact this) GW181.out)) | (show (Addr.add _ _).block ≠ _; rw [add_block]; exact Nat.ne_of_lt (Nat.lt_of_lt_of_le (by have := World.block_lt_of_cell? _ _ hw195_0; first | rwa [add_block] at this | exact this) GW181.out)) | (dsimp only; exact Nat.ne_of_lt (Nat.lt_of_lt_of_le (by have := World.block_lt_of_cell? _ _ hw195_0; first | rwa [add_block] at this | exact this) GW181.out))) _).trans (((cell_far (p := ⟨gb181, _, none⟩) (by first | exact Nat.ne_of_lt (Nat.lt_of_lt_of_le (by have := World.block_lt_of_cell? _ _ hw195_0; first | rwa [add_block] at this | exact this) GW181.out) | (rw [add_block]; exact Nat.ne_of_lt (Nat.lt_of_lt_of_le (by have := World.block_lt_of_cell? _ _ hw195_0; first | rwa [add_block] at this | exact this) GW181.out)) | (show (Addr.add _ _).block ≠ _; rw [add_block]; exact Nat.ne_of_lt (Nat.lt_of_lt_of_le (by have := World.block_lt_of_cell? _ _ hw195_0; first | rwa [add_block] at this | exact this) GW181.out)) | (dsimp only; exact Nat.ne_of_lt (Nat.lt_of_lt_of_le (by have := World.block_lt_of_cell? _ _ hw195_0; first | rwa [add_block] at this | exact this) GW181.out))) _).trans (((cell_far (p := ⟨gb181, _, none⟩) (by first | exact Nat.ne_of_lt (Nat.lt_of_lt_of_le (by have := World.block_lt_of_cell? _ _ hw195_0; first | rwa [add_block] at this | exact this) GW181.out) | (rw [add_block]; exact Nat.ne_of_lt (Nat.lt_of_lt_of_le (by have := World.block_lt_of_cell? _ _ hw195_0; first | rwa [add_block] at this | exact this) GW181.out)) | (show (Addr.add _ _).block ≠ _; rw [add_block]; exact Nat.ne_of_lt (Nat.lt_of_lt_of_le (by have := World.block_lt_of_cell? _ _ hw195_0; first | rwa [add_block] at this | exact this) GW181.out)) | (dsimp only; exact Nat.ne_of_lt (Nat.lt_of_lt_of_le (by have := World.block_lt_of_cell? _ _ hw195_0; first | rwa [add_block] at this | exact this) GW181.out))) _).trans (((cell_far (p := ⟨gb181, _, none⟩) (by first | exact Nat.ne_of_lt (Nat.lt_of_lt_of_le (by have := World.block_lt_of_cell? _ _ hw195_0; first | rwa [add_block] at this | exact this) GW181.out) | (rw [add_block]; exact Nat.ne_of_lt (Nat.lt_of_lt_of_le (by have := World.block_lt_of_cell? _ _ hw195_0; first | rwa [add_block] at this | exact this) GW181.out)) | (show (Addr.add _ _).block ≠ _; rw [add_block]; exact Nat.ne_of_lt (Nat.lt_of_lt_of_le (by have := World.block_lt_of_cell? _ _ hw195_0; first | rwa [add_block] at this | exact this) GW181.out)) | (dsimp only; exact Nat.ne_of_lt (Nat.lt_of_lt_of_le (by have := World.block_lt_of_cell? _ _ hw195_0; first | rwa [add_block] at this | exact this) GW181.out))) _).trans (hHeld.2.1)))))))))))))), ((cell_far (p := ⟨gb181, _, none⟩) (by first | exact Nat.ne_of_lt (Nat.lt_of_lt_of_le (by have := World.block_lt_of_cell? _ _ hw196_0; first | rwa [add_block] at this | exact this) GW181.out) | (rw [add_block]; exact Nat.ne_of_lt (Nat.lt_of_lt_of_le (by have := World.block_lt_of_cell? _ _ hw196_0; first | rwa [add_block] at this | exact this) GW181.out)) | (show (Addr.add _ _).block ≠ _; rw [add_block]; exact Nat.ne_of_lt (Nat.lt_of_lt_of_le (by have := World.block_lt_of_cell? _ _ hw196_0; first | rwa [add_block] at this | exact this) GW181.out)) | (dsimp only; exact Nat.ne_of_lt (Nat.lt_of_lt_of_le (by have := World.block_lt_of_cell? _ _ hw196_0; first | rwa [add_block] at this | exact this) GW181.out))) _).trans (((cell_far (p := ⟨gb181, _, none⟩) (by first | exact Nat.ne_of_lt (Nat.lt_of_lt_of_le (by have := World.block_lt_of_cell? _ _ hw196_0; first | rwa [add_block] at this | exact this) GW181.out) | (rw [add_block]; exact Nat.ne_of_lt (Nat.lt_of_lt_of_le (by have := World.block_lt_of_cell? _ _ hw196_0; first | rwa [add_block] at this | exact this) GW181.out)) | (show (Addr.add _ _).block ≠ _; rw [add_block]; exact Nat.ne_of_lt (Nat.lt_of_lt_of_le (by have := World.block_lt_of_cell? _ _ hw196_0; first | rwa [add_block] at this | exact this) GW181.out)) | (dsimp only; exact Nat.ne_of_lt (Nat.lt_of_lt_of_le (by have := World.block_lt_of_cell? _ _ hw196_0; first | rwa [add_block] at this | exact this) GW181.out))) _).trans (((cell_far (p := ⟨gb181, _, none⟩) (by first | exact Nat.ne_of_lt (Nat.lt_of_lt_of_le (by have := World.block_lt_of_cell? _ _ hw196_0; first | rwa [add_block] at this | exact this) GW181.out) | (rw [add_block]; exact Nat.ne_of_lt (Nat.lt_of_lt_of_le (by have := World.block_lt_of_cell? _ _ hw196_0; first | rwa [add_block] at this | exact this) GW181.out)) | (show (Addr.add _ _).block ≠ _; rw [add_block]; exact Nat.ne_of_lt (Nat.lt_of_lt_of_le (by have := World.block_lt_of_cell? _ _ hw196_0; first | rwa [add_block] at this | exact this) GW181.out)) | (dsimp only; exact Nat.ne_of_lt (Nat.lt_of_lt_of_le (by have := World.block_lt_of_cell? _ _ hw196_0; first | rwa [add_block] at this | exact this) GW181.out))) _).trans (((cell_far (p := ⟨gb181, _, none⟩) (by first | exact Nat.ne_of_lt (Nat.lt_of_lt_of_le (by have := World.block_lt_of_cell? _ _ hw196_0; first | rwa [add_block] at this | exact this) GW181.out) | (rw [add_block]; exact Nat.ne_of_lt (Nat.lt_of_lt_of_le (by have := World.block_lt_of_cell? _ _ hw196_0; first | rwa [add_block] at this | exact this) GW181.out)) | (show (Addr.add _ _).block ≠ _; rw [add_block]; exact Nat.ne_of_lt (Nat.lt_of_lt_of_le (by have := World.block_lt_of_cell? _ _ hw196_0; first | rwa [add_block] at this | exact this) GW181.out)) | (dsimp only; exact Nat.ne_of_lt (Nat.lt_of_lt_of_le (by have := World.block_lt_of_cell? _ _ hw196_0; first | rwa [add_block] at this | exact this) GW181.out))) _).trans (((cell_far (p := ⟨gb181, _, none⟩) (by first | exact Nat.ne_of_lt (Nat.lt_of_lt_of_le (by have := World.block_lt_of_cell? _ _ hw196_0; first | rwa [add_block] at this | exact this) GW181.out) | (rw [add_block]; exact Nat.ne_of_lt (Nat.lt_of_lt_of_le (by have := World.block_lt_of_cell? _ _ hw196_0; first | rwa [add_block] at this | exact this) GW181.out)) | (show (Addr.add _ _).block ≠ _; rw [add_block]; exact Nat.ne_of_lt (Nat.lt_of_lt_of_le (by have := World.block_lt_of_cell? _ _ hw196_0; first | rwa [add_block] at this | exact this) GW181.out)) | (dsimp only; exact Nat.ne_of_lt (Nat.lt_of_lt_of_le (by have := World.block_lt_of_cell? _ _ hw196_0; first | rwa [add_block] at this | exact this) GW181.out))) _).trans (((cell_far (p := ⟨gb181, _, none⟩) (by first | exact Nat.ne_of_lt (Nat.lt_of_lt_of_le (by have := World.block_lt_of_cell? _ _ hw196_0; first | rwa [add_block] at this | exact this) GW181.out) | (rw [add_block]; exact Nat.ne_of_lt (Nat.lt_of_lt_of_le (by have := World.block_lt_of_cell? _ _ hw196_0; first | rwa [add_block] at this | exact this) GW181.out)) | (show (Addr.add _ _).block ≠ _; rw [add_block]; exact Nat.ne_of_lt (Nat.lt_of_lt_of_le (by have := World.block_lt_of_cell? _ _ hw196_0; first | rwa [add_block] at this | exact this) GW181.out)) | (dsimp only; exact Nat.ne_of_lt (Nat.lt_of_lt_of_le (by have := World.block_lt_of_cell? _ _ hw196_0; first | rwa [add_block] at this | exact this) GW181.out))) _).trans (((cell_far (p := ⟨gb181, _, none⟩) (by first | exact Nat.ne_of_lt (Nat.lt_of_lt_of_le (by have := World.block_lt_of_cell? _ _ hw196_0; first | rwa [add_block] at this | exact this) GW181.out) | (rw [add_block]; exact Nat.ne_of_lt (Nat.lt_of_lt_of_le (by have := World.block_lt_of_cell? _ _ hw196_0; first | rwa [add_block] at this | exact this) GW181.out)) | (show (Addr.add _ _).block ≠ _; rw [add_block]; exact Nat.ne_of_lt (Nat.lt_of_lt_of_le (by have := World.block_lt_of_cell? _ _ hw196_0; first | rwa [add_block] at this | exact this) GW181.out)) | (dsimp only; exact Nat.ne_of_lt (Nat.lt_of_lt_of_le (by have := World.block_lt_of_cell? _ _ hw196_0; first | rwa [add_block] at this | exact this) GW181.out))) _).trans (hHeld.2.2.1)))))))))))))), ((cell_far (p := ⟨gb181, _, none⟩) (by first | exact Nat.ne_of_lt (Nat.lt_of_lt_of_le (by have := World.block_lt_of_cell? _ _ hw197_0; first | rwa [add_block] at this | exact this) GW181.out) | (rw [add_block]; exact Nat.ne_of_lt (Nat.lt_of_lt_of_le (by have := World.block_lt_of_cell? _ _ hw197_0; first | rwa [add_block] at this | exact this) GW181.out)) | (show (Addr.add _ _).block ≠ _; rw [add_block]; exact Nat.ne_of_lt (Nat.lt_of_lt_of_le (by have := World.block_lt_of_cell? _ _ hw197_0; first | rwa [add_block] at this | exact this) GW181.out)) | (dsimp only; exact Nat.ne_of_lt (Nat.lt_of_lt_of_le (by have := World.block_lt_of_cell? _ _ hw197_0; first | rwa [add_block] at this | exact this) GW181.out))) _).trans (((cell_far (p := ⟨gb181, _, none⟩) (by first | exact Nat.ne_of_lt (Nat.lt_of_lt_of_le (by have := World.block_lt_of_cell? _ _ hw197_0; first | rwa [add_block] at this | exact this) GW181.out) | (rw [add_block]; exact Nat.ne_of_lt (Nat.lt_of_lt_of_le (by have := World.block_lt_of_cell? _ _ hw197_0; first | rwa [add_block] at this | exact this) GW181.out)) | (show (Addr.add _ _).block ≠ _; rw [add_block]; exact Nat.ne_of_lt (Nat.lt_of_lt_of_le (by have := World.block_lt_of_cell? _ _ hw197_0; first | rwa [add_block] at this | exact this) GW181.out)) | (dsimp only; exact Nat.ne_of_lt (Nat.lt_of_lt_of_le (by have := World.block_lt_of_cell? _ _ hw197_0; first | rwa [add_block] at this | exact this) GW181.out))) _).trans (((cell_far (p := ⟨gb181, _, none⟩) (by first | exact Nat.ne_of_lt (Nat.lt_of_lt_of_le (by have := World.block_lt_of_cell? _ _ hw197_0; first | rwa [add_block] at this | exact this) GW181.out) | (rw [add_block]; exact Nat.ne_of_lt (Nat.lt_of_lt_of_le (by have := World.block_lt_of_cell? _ _ hw197_0; first | rwa [add_block] at this | exact this) GW181.out)) | (show (Addr.add _ _).block ≠ _; rw [add_block]; exact Nat.ne_of_lt (Nat.lt_of_lt_of_le (by have := World.block_lt_of_cell? _ _ hw197_0; first | rwa [add_block] at this | exact this) GW181.out)) | (dsimp only; exact Nat.ne_of_lt (Nat.lt_of_lt_of_le (by have := World.block_lt_of_cell? _ _ hw197_0; first | rwa [add_block] at this | exact this) GW181.out))) _).trans (((cell_far (p := ⟨gb181, _, none⟩) (by first | exact Nat.ne_of_lt (Nat.lt_of_lt_of_le (by have := World.block_lt_of_cell? _ _ hw197_0; first | rwa [add_block] at this | exact this) GW181.out) | (rw [add_block]; exact Nat.ne_of_lt (Nat.lt_of_lt_of_le (by have := World.block_lt_of_cell? _ _ hw197_0; first | rwa [add_block] at this | exact this) GW181.out)) | (show (Addr.add _ _).block ≠ _; rw [add_block]; exact Nat.ne_of_lt (Nat.lt_of_lt_of_le (by have := World.block_lt_of_cell? _ _ hw197_0; first | rwa [add_block] at this | exact this) GW181.out)) | (dsimp only; exact Nat.ne_of_lt (Nat.lt_of_lt_of_le (by have := World.block_lt_of_cell? _ _ hw197_0; first | rwa [add_block] at this | exact this) GW181.out))) _).trans (((cell_far (p := ⟨gb181, _, none⟩) (by first | exact Nat.ne_of_lt (Nat.lt_of_lt_of_le (by have := World.block_lt_of_cell? _ _ hw197_0; first | rwa [add_block] at this | exact this) GW181.out) | (rw [add_block]; exact Nat.ne_of_lt (Nat.lt_of_lt_of_le (by have := World.block_lt_of_cell? _ _ hw197_0; first | rwa [add_block] at this | exact this) GW181.out)) | (show (Addr.add _ _).block ≠ _; rw [add_block]; exact Nat.ne_of_lt (Nat.lt_of_lt_of_le (by have := World.block_lt_of_cell? _ _ hw197_0; first | rwa [add_block] at this | exact this) GW181.out)) | (dsimp only; exact Nat.ne_of_lt (Nat.lt_of_lt_of_le (by have := World.block_lt_of_cell? _ _ hw197_0; first | rwa [add_block] at this | exact this) GW181.out))) _).trans (((cell_far (p := ⟨gb181, _, none⟩) (by first | exact Nat.ne_of_lt (Nat.lt_of_lt_of_le (by have := World.block_lt_of_cell? _ _ hw197_0; first | rwa [add_block] at this | exact this) GW181.out) | (rw [add_block]; exact Nat.ne_of_lt (Nat.lt_of_lt_of_le (by have := World.block_lt_of_cell? _ _ hw197_0; first | rwa [add_block] at this | exact this) GW181.out)) | (show (Addr.add _ _).block ≠ _; rw [add_block]; exact Nat.ne_of_lt (Nat.lt_of_lt_of_le (by have := World.block_lt_of_cell? _ _ hw197_0; first | rwa [add_block] at this | exact this) GW181.out)) | (dsimp only; exact Nat.ne_of_lt (Nat.lt_of_lt_of_le (by have := World.block_lt_of_cell? _ _ hw197_0; first | rwa [add_block] at this | exact this) GW181.out))) _).trans (((cell_far (p := ⟨gb181, _, none⟩) (by first | exact Nat.ne_of_lt (Nat.lt_of_lt_of_le (by have := World.block_lt_of_cell? _ _ hw197_0; first | rwa [add_block] at this | exact this) GW181.out) | (rw [add_block]; exact Nat.ne_of_lt (Nat.lt_of_lt_of_le (by have := World.block_lt_of_cell? _ _ hw197_0; first | rwa [add_block] at this | exact this) GW181.out)) | (show (Addr.add _ _).block ≠ _; rw [add_block]; exact Nat.ne_of_lt (Nat.lt_of_lt_of_le (by have := World.block_lt_of_cell? _ _ hw197_0; first | rwa [add_block] at this | exact this) GW181.out)) | (dsimp only; exact Nat.ne_of_lt (Nat.lt_of_lt_of_le (by have := World.block_lt_of_cell? _ _ hw197_0; first | rwa [add_block] at this | exact this) GW181.out))) _).trans (hHeld.2.2.2))))))))))))))⟩ (fun hHeld => ?_)
                              clear hK K
                              refine pure_ (i := 14) (N := some 5) (v := ?_) (a' := ?_) #[true, true, true, true, true, true, true, true, true, true, true, true, true, true, true] rfl rfl (any_of HT_.out (by kernel_rfl)) (fun _ _ _ h => h) (Or.inl ⟨by rfl, ?_⟩) ?_ ?_
                              rotate_left
                              · intro w'
                                go_simp
                                with_reducible rfl
                              rotate_left
                              · simp only [Act.put, List.setIfInBounds_toArray, List.set_cons_zero, List.set_cons_succ, i64_w, i32_w]
                                rfl
                              refine done_ (done_of HT_.out (by kernel_rfl)) ?_
                              try go_wp2
                              refine bodyPost_ret (results_ct rfl _ _ gb181 24 #[.int .u32 (rd l1 0), .int .u32 (rd l1 1), .int .u32 (rd l1 2), .int .u32 (rd l1 3), .int .u32 0, .int .u32 0, .int .u32 0] (0, 0) _ rfl (by (with_reducible repeat (first | refine blk_drewN ?_ _ | refine blk_drew ?_ | refine blk_alloc ?_ _)); refine blk_put (cs := #[.int .u32 (rd l1 0), .int .u32 (rd l1 1), .int .u32 (rd l1 2), .int .u32 (rd l1 3), .int .u32 0, .int .u32 0, .int .u32 0]) ?_ 6 _ rfl; (with_reducible repeat (first | refine blk_drewN ?_ _ | refine blk_drew ?_ | refine blk_alloc ?_ _)); refine blk_put (cs := #[.int .u32 (rd l1 0), .int .u32 (rd l1 1), .int .u32 (rd l1 2), .int .u32 (rd l1 3), .int .u32 0, .int .u32 0, .int .u32 0]) ?_ 5 _ rfl; (with_reducible repeat (first | refine blk_drewN ?_ _ | refine blk_drew ?_ | refine blk_alloc ?_ _)); refine blk_put (cs := #[.int .u32 (rd l1 0), .int .u32 (rd l1 1), .int .u32 (rd l1 2), .int .u32 (rd l1 3), .int .u32 0, .int .u32 0, .int .u32 0]) ?_ 4 _ rfl; (with_reducible repeat (first | refine blk_drewN ?_ _ | refine blk_drew ?_ | refine blk_alloc ?_ _)); refine blk_put (cs := #[.int .u32 (rd l1 0), .int .u32 (rd l1 1), .int .u32 (rd l1 2), .int .u32 0, .int .u32 0, .int .u32 0, .int .u32 0]) ?_ 3 _ rfl; (with_reducible repeat (first | refine blk_drewN ?_ _ | refine blk_drew ?_ | refine blk_alloc ?_ _)); refine blk_put (cs := #[.int .u32 (rd l1 0), .int .u32 (rd l1 1), .int .u32 0, .int .u32 0, .int .u32 0, .int .u32 0, .int .u32 0]) ?_ 2 _ rfl; (with_reducible repeat (first | refine blk_drewN ?_ _ | refine blk_drew ?_ | refine blk_alloc ?_ _)); refine blk_put (cs := #[.int .u32 (rd l1 0), .int .u32 0, .int .u32 0, .int .u32 0, .int .u32 0, .int .u32 0, .int .u32 0]) ?_ 1 _ rfl; (with_reducible repeat (first | refine blk_drewN ?_ _ | refine blk_drew ?_ | refine blk_alloc ?_ _)); refine blk_put (cs := #[.int .u32 0, .int .u32 0, .int .u32 0, .int .u32 0, .int .u32 0, .int .u32 0, .int .u32 0]) ?_ 0 _ rfl; (with_reducible repeat (first | refine blk_drewN ?_ _ | refine blk_drew ?_ | refine blk_alloc ?_ _)); exact BK181.out) Try.underlying24 rfl (by kernel_rfl)) rfl ?_
                              exact ⟨by first | rfl | (simp [errW_none, errW_some] <;> rfl) | (simp [*, errW_none, errW_some] <;> rfl), by repeat (first | (with_reducible first | exact HB.out | apply below_alloc | apply pw_below_drewN | apply below_drew1 | refine below_set ?_ GE181.out) | exact HB.out)⟩
                            · rw [if_neg c51] at H
                              exact absurd H (by simp)
                          · rw [if_neg c50] at H
                            exact absurd H (by simp)
                        · rw [if_neg c49] at H
                          exact absurd H (by simp)
                      · rw [if_neg c48] at H
                        exact absurd H (by simp)
                    · rw [if_neg c47] at H
                      have c47b0 : (a0 == 6) = false := beq_eq_false_iff_ne.mpr c47
                      have c47b1 : (a0 != 6) = true := bne_iff_ne.mpr c47
                      by_cases c60 : a0 = 7
                      · rw [if_pos c60] at H
                        have c60b0 : (a0 == 7) = true := beq_iff_eq.mpr c60
                        have c60b1 : (a0 != 7) = false := bne_eq_false_iff_eq.mpr c60
                        clear c60
                        by_cases c61 : 0 < (l1.length : Int)
                        · rw [if_pos c61] at H
                          have c61b0 : decide (0 < (l1.length : Int)) = true := decide_eq_true c61
                          have c61b1 : decide (0 < l1.length) = true := decide_eq_true (by omega)
                          clear c61
                          by_cases c62 : 1 < (l1.length : Int)
                          · rw [if_pos c62] at H
                            have c62b0 : decide (1 < (l1.length : Int)) = true := decide_eq_true c62
                            have c62b1 : decide (1 < l1.length) = true := decide_eq_true (by omega)
                            clear c62
                            by_cases c63 : 2 < (l1.length : Int)
                            · rw [if_pos c63] at H
                              have c63b0 : decide (2 < (l1.length : Int)) = true := decide_eq_true c63
                              have c63b1 : decide (2 < l1.length) = true := decide_eq_true (by omega)
                              clear c63
                              by_cases c64 : 3 < (l1.length : Int)
                              · rw [if_pos c64] at H
                                have c64b0 : decide (3 < (l1.length : Int)) = true := decide_eq_true c64
                                have c64b1 : decide (3 < l1.length) = true := decide_eq_true (by omega)
                                clear c64
                                simp only [Option.some.injEq, Prod.mk.injEq] at H
                                obtain ⟨rfl, rfl, rfl, rfl, rfl, rfl, rfl, rfl⟩ := H
                                try go_wp2
                                have n0_ := Aside0.mk (blk_drew BK181.out)
                                have n1_ := Aside0.mk (below_drew1 HB.out)
                                clear BK181
                                clear HB
                                have BK181 := n0_
                                have HB := n1_
                                clear n0_ n1_
                                have p198 : 0 ≤ (0 : Int) := (by omega)
                                have q198 : 0 < (l1.length : Int) := of_decide_eq_true (by first | (with_reducible assumption) | assumption)
                                obtain ⟨ad198, e198, hx198_0⟩ := Kd.at_int HR1.out 0 p198 q198
                                have hw198_0 := hx198_0
                                (try rw [show ((0 : Int)).toNat = 0 from rfl] at hw198_0)
                                (try rw [show 0 * 1 = 0 from rfl] at hw198_0)
                                (try rw [Addr.add_zero'] at hw198_0)
                                cases e198
                                have qi198 : (0 < l1.length) = True := eq_true (by omega)
                                (try rw [show ((0 : Int)).toNat = 0 from rfl] at hx198_0)
                                (try rw [Addr.add_zero'] at hx198_0)
                                replace hx198_0 := (HB.out.cell (World.block_lt_of_cell? w _ hx198_0)).trans hx198_0
                                replace p198 := eq_true p198
                                replace q198 := eq_true q198
                                have p199 : 0 ≤ (1 : Int) := (by omega)
                                have q199 : 1 < (l1.length : Int) := of_decide_eq_true (by first | (with_reducible assumption) | assumption)
                                obtain ⟨ad199, e199, hx199_0⟩ := Kd.at_int HR1.out 1 p199 q199
                                have hw199_0 := hx199_0
                                (try rw [show ((1 : Int)).toNat = 1 from rfl] at hw199_0)
                                (try rw [show 1 * 1 = 1 from rfl] at hw199_0)
                                (try simp only [Nat.reduceMul, Nat.reduceEqDiff, Go.Addr.add, ↓reduceIte] at hw199_0)
                                obtain rfl : ad198 = ad199 := (by injection e199)
                                (try simp only [show (1 : Int).toNat = 1 from rfl, Nat.reduceMul, Nat.reduceEqDiff, Go.Addr.add, ↓reduceIte] at hx199_0)
                                have qi199 : (1 < l1.length) = True := eq_true (by omega)
                                (try rw [show ((1 : Int)).toNat = 1 from rfl] at hx199_0)
                                replace hx199_0 := (HB.out.cell (World.block_lt_of_cell? w _ hx199_0)).trans hx199_0
                                replace p199 := eq_true p199
                                replace q199 := eq_true q199
                                have p200 : 0 ≤ (2 : Int) := (by omega)
                                have q200 : 2 < (l1.length : Int) := of_decide_eq_true (by first | (with_reducible assumption) | assumption)
                                obtain ⟨ad200, e200, hx200_0⟩ := Kd.at_int HR1.out 2 p200 q200
                                have hw200_0 := hx200_0
                                (try rw [show ((2 : Int)).toNat = 2 from rfl] at hw200_0)
                                (try rw [show 2 * 1 = 2 from rfl] at hw200_0)
                                (try simp only [Nat.reduceMul, Nat.reduceEqDiff, Go.Addr.add, ↓reduceIte] at hw200_0)
                                obtain rfl : ad198 = ad200 := (by injection e200)
                                (try simp only [show (2 : Int).toNat = 2 from rfl, Nat.reduceMul, Nat.reduceEqDiff, Go.Addr.add, ↓reduceIte] at hx200_0)
                                have qi200 : (2 < l1.length) = True := eq_true (by omega)
                                (try rw [show ((2 : Int)).toNat = 2 from rfl] at hx200_0)
                                replace hx200_0 := (HB.out.cell (World.block_lt_of_cell? w _ hx200_0)).trans hx200_0
                                replace p200 := eq_true p200
                                replace q200 := eq_true q200
                                have p201 : 0 ≤ (3 : Int) := (by omega)
                                have q201 : 3 < (l1.length : Int) := of_decide_eq_true (by first | (with_reducible assumption) | assumption)
                                obtain ⟨ad201, e201, hx201_0⟩ := Kd.at_int HR1.out 3 p201 q201
                                have hw201_0 := hx201_0
                                (try rw [show ((3 : Int)).toNat = 3 from rfl] at hw201_0)
                                (try rw [show 3 * 1 = 3 from rfl] at hw201_0)
                                (try simp only [Nat.reduceMul, Nat.reduceEqDiff, Go.Addr.add, ↓reduceIte] at hw201_0)
                                obtain rfl : ad198 = ad201 := (by injection e201)
                                (try simp only [show (3 : Int).toNat = 3 from rfl, Nat.reduceMul, Nat.reduceEqDiff, Go.Addr.add, ↓reduceIte] at hx201_0)
                                have qi201 : (3 < l1.length) = True := eq_true (by omega)
                                (try rw [show ((3 : Int)).toNat = 3 from rfl] at hx201_0)
                                replace hx201_0 := (HB.out.cell (World.block_lt_of_cell? w _ hx201_0)).trans hx201_0
                                replace p201 := eq_true p201
                                replace q201 := eq_true q201
                                refine start_ (n := 15) (S := fun w' => w'.cell? ad198 = some (.int .u32 (rd l1 0)) ∧ w'.cell? ⟨ad198.block, ad198.off + 1, none⟩ = some (.int .u32 (rd l1 1)) ∧ w'.cell? ⟨ad198.block, ad198.off + 2, none⟩ = some (.int .u32 (rd l1 2)) ∧ w'.cell? ⟨ad198.block, ad198.off + 3, none⟩ = some (.int .u32 (rd l1 3))) (ds := []) #[false, false, false, false, false, false, false, false, false, false, false, false, false, false, false] (by kernel_rfl) rfl rfl ⟨((HB.out.cell (World.block_lt_of_cell? w _ hw198_0)).trans hw198_0), ((HB.out.cell (World.block_lt_of_cell? w _ hw199_0)).trans hw199_0), ((HB.out.cell (World.block_lt_of_cell? w _ hw200_0)).trans hw200_0), ((HB.out.cell (World.block_lt_of_cell? w _ hw201_0)).trans hw201_0)⟩ (fun hHeld => ?_); refine with_tabW chamberlainref11_Get.tab15 chamberlainref11_Get.bits15 (fun HT_ HW_ => ?_)
                                generalize wc.drew = w65 at BK181 HB hx198_0 hx199_0 hx200_0 hx201_0 hHeld ⊢
                                refine pure_ (i := 0) (N := some 62) (v := ?_) (a' := ?_) #[true, false, false, false, false, false, false, false, false, false, false, false, false, false, false] rfl rfl (any_of HT_.out (by kernel_rfl)) (fun _ _ _ h => h) (Or.inl ⟨by rfl, ?_⟩) ?_ ?_
                                rotate_left
                                · intro w'
                                  go_simp
                                  with_reducible rfl
                                rotate_left
                                · simp only [Act.put, List.setIfInBounds_toArray, List.set_cons_zero, List.set_cons_succ, i64_w, i32_w]
                                  rfl
                                refine pure_ (i := 1) (N := some 63) (v := ?_) (a' := ?_) #[true, true, false, false, false, false, false, false, false, false, false, false, false, false, false] rfl rfl (any_of HT_.out (by kernel_rfl)) (fun _ _ _ h => h) (Or.inl ⟨by rfl, ?_⟩) ?_ ?_
                                rotate_left
                                · intro w'
                                  go_simp
                                  with_reducible rfl
                                rotate_left
                                · simp only [Act.put, List.setIfInBounds_toArray, List.set_cons_zero, List.set_cons_succ, i64_w, i32_w]
                                  rfl
                                refine pure_ (i := 3) (N := some 65) (v := ?_) (a' := ?_) #[true, true, false, true, false, false, false, false, false, false, false, false, false, false, false] rfl rfl (any_of HT_.out (by kernel_rfl)) (fun _ _ _ h => h) (Or.inl ⟨by rfl, ?_⟩) ?_ ?_
                                rotate_left
                                · intro w'
                                  go_simp
                                  with_reducible rfl
                                rotate_left
                                · simp only [Act.put, List.setIfInBounds_toArray, List.set_cons_zero, List.set_cons_succ, i64_w, i32_w]
                                  rfl
                                refine pure_ (i := 4) (N := some 66) (v := ?_) (a' := ?_) #[true, true, false, true, true, false, false, false, false, false, false, false, false, false, false] rfl rfl (any_of HT_.out (by kernel_rfl)) (fun _ _ _ h => h) (Or.inl ⟨by rfl, ?_⟩) ?_ ?_
                                rotate_left
                                · intro w'
                                  go_simp
                                  with_reducible rfl
                                rotate_left
                                · simp only [Act.put, List.setIfInBounds_toArray, List.set_cons_zero, List.set_cons_succ, i64_w, i32_w]
                                  rfl
                                refine pure_ (i := 6) (N := some 68) (v := ?_) (a' := ?_) #[true, true, false, true, true, false, true, false, false, false, false, false, false, false, false] rfl rfl (any_of HT_.out (by kernel_rfl)) (fun _ _ _ h => h) (Or.inl ⟨by rfl, ?_⟩) ?_ ?_
                                rotate_left
                                · intro w'
                                  go_simp
                                  with_reducible rfl
                                rotate_left
                                · simp only [Act.put, List.setIfInBounds_toArray, List.set_cons_zero, List.set_cons_succ, i64_w, i32_w]
                                  rfl
                                refine pure_ (i := 7) (N := some 69) (v := ?_) (a' := ?_) #[true, true, false, true, true, false, true, true, false, false, false, false, false, false, false] rfl rfl (any_of HT_.out (by kernel_rfl)) (fun _ _ _ h => h) (Or.inl ⟨by rfl, ?_⟩) ?_ ?_
                                rotate_left
                                · intro w'
                                  go_simp
                                  with_reducible rfl
                                rotate_left
                                · simp only [Act.put, List.setIfInBounds_toArray, List.set_cons_zero, List.set_cons_succ, i64_w, i32_w]
                                  rfl
                                refine pure_ (i := 9) (N := some 71) (v := ?_) (a' := ?_) #[true, true, false, true, true, false, true, true, false, true, false, false, false, false, false] rfl rfl (any_of HT_.out (by kernel_rfl)) (fun _ _ _ h => h) (Or.inl ⟨by rfl, ?_⟩) ?_ ?_
                                rotate_left
                                · intro w'
                                  go_simp
                                  with_reducible rfl
                                rotate_left
                                · simp only [Act.put, List.setIfInBounds_toArray, List.set_cons_zero, List.set_cons_succ, i64_w, i32_w]
                                  rfl
                                refine pure_ (i := 10) (N := some 72) (v := ?_) (a' := ?_) #[true, true, false, true, true, false, true, true, false, true, true, false, false, false, false] rfl rfl (any_of HT_.out (by kernel_rfl)) (fun _ _ _ h => h) (Or.inl ⟨by rfl, ?_⟩) ?_ ?_
                                rotate_left
                                · intro w'
                                  go_simp
                                  with_reducible rfl
                                rotate_left
                                · simp only [Act.put, List.setIfInBounds_toArray, List.set_cons_zero, List.set_cons_succ, i64_w, i32_w]
                                  rfl
                                refine take_ (i := 2) (N := some 64) (v := ?_) (a' := ?_) #[true, true, true, true, true, false, true, true, false, true, true, false, false, false, false] rfl rfl (take_ofW HT_.out HW_.out (by kernel_rfl)) (fun _ _ _ h => h) (Or.inl ⟨by rfl, ?_⟩) hHeld ?_ ?_
                                rotate_left
                                · rintro w' ⟨s0, s1, s2, s3⟩
                                  go_simp
                                  with_reducible rfl
                                rotate_left
                                · simp only [Act.put, List.setIfInBounds_toArray, List.set_cons_zero, List.set_cons_succ, i64_w, i32_w]
                                  rfl
                                refine take_ (i := 5) (N := some 67) (v := ?_) (a' := ?_) #[true, true, true, true, true, true, true, true, false, true, true, false, false, false, false] rfl rfl (take_ofW HT_.out HW_.out (by kernel_rfl)) (fun _ _ _ h => h) (Or.inl ⟨by rfl, ?_⟩) hHeld ?_ ?_
                                rotate_left
                                · rintro w' ⟨s0, s1, s2, s3⟩
                                  go_simp
                                  with_reducible rfl
                                rotate_left
                                · simp only [Act.put, List.setIfInBounds_toArray, List.set_cons_zero, List.set_cons_succ, i64_w, i32_w]
                                  rfl
                                refine take_ (i := 8) (N := some 70) (v := ?_) (a' := ?_) #[true, true, true, true, true, true, true, true, true, true, true, false, false, false, false] rfl rfl (take_ofW HT_.out HW_.out (by kernel_rfl)) (fun _ _ _ h => h) (Or.inl ⟨by rfl, ?_⟩) hHeld ?_ ?_
                                rotate_left
                                · rintro w' ⟨s0, s1, s2, s3⟩
                                  go_simp
                                  with_reducible rfl
                                rotate_left
                                · simp only [Act.put, List.setIfInBounds_toArray, List.set_cons_zero, List.set_cons_succ, i64_w, i32_w]
                                  rfl
                                refine take_ (i := 11) (N := some 73) (v := ?_) (a' := ?_) #[true, true, true, true, true, true, true, true, true, true, true, true, false, false, false] rfl rfl (take_ofW HT_.out HW_.out (by kernel_rfl)) (fun _ _ _ h => h) (Or.inl ⟨by rfl, ?_⟩) hHeld ?_ ?_
                                rotate_left
                                · rintro w' ⟨s0, s1, s2, s3⟩
                                  go_simp
                                  with_reducible rfl
                                rotate_left
                                · simp only [Act.put, List.setIfInBounds_toArray, List.set_cons_zero, List.set_cons_succ, i64_w, i32_w]
                                  rfl
                                refine pure_ (i := 12) (N := some 74) (v := ?_) (a' := ?_) #[true, true, true, true, true, true, true, true, true, true, true, true, true, false, false] rfl rfl (any_of HT_.out (by kernel_rfl)) (fun _ _ _ h => h) (Or.inl ⟨by rfl, ?_⟩) ?_ ?_
                                rotate_left
                                · intro w'
                                  go_simp
                                  with_reducible rfl
                                rotate_left
                                · simp only [Act.put, List.setIfInBounds_toArray, List.set_cons_zero, List.set_cons_succ, i64_w, i32_w]
                                  rfl
                                refine one_ (i := 13) (N := none) #[true, true, true, true, true, true, true, true, true, true, true, true, true, true, false] rfl rfl (one_of HT_.out (by kernel_rfl)) (by decide) (fun K hK => ?_)
                                have hs66 : w65.cell? ⟨gb181, 0, none⟩ = some (.int .u32 0) := (blk_cell BK181.out 0).trans rfl
                                have hfs66 := blk_frozen BK181.out 0
                                have hs67 : w65.cell? ⟨gb181, 1, none⟩ = some (.int .u32 0) := (blk_cell BK181.out 1).trans rfl
                                have hfs67 := blk_frozen BK181.out 1
                                have hs68 : w65.cell? ⟨gb181, 2, none⟩ = some (.int .u32 0) := (blk_cell BK181.out 2).trans rfl
                                have hfs68 := blk_frozen BK181.out 2
                                have hs69 : w65.cell? ⟨gb181, 3, none⟩ = some (.int .u32 0) := (blk_cell BK181.out 3).trans rfl
                                have hfs69 := blk_frozen BK181.out 3
                                have hs70 : w65.cell? ⟨gb181, 4, none⟩ = some (.int .u32 0) := (blk_cell BK181.out 4).trans rfl
                                have hfs70 := blk_frozen BK181.out 4
                                have hs71 : w65.cell? ⟨gb181, 5, none⟩ = some (.int .u32 0) := (blk_cell BK181.out 5).trans rfl
                                have hfs71 := blk_frozen BK181.out 5
                                have hs72 : w65.cell? ⟨gb181, 6, none⟩ = some (.int .u32 0) := (blk_cell BK181.out 6).trans rfl
                                have hfs72 := blk_frozen BK181.out 6
                                refine skip_ (w1 := ?_) (by rfl) rfl ?_ ?_
                                rotate_left
                                · go_simp
                                  rfl
                                refine hK.out _ _ ⟨((cell_far (p := ⟨gb181, _, none⟩) (by first | exact Nat.ne_of_lt (Nat.lt_of_lt_of_le (by have := World.block_lt_of_cell? _ _ hw198_0; first | rwa [add_block] at this | exact this) GW181.out) | (rw [add_block]; exact Nat.ne_of_lt (Nat.lt_of_lt_of_le (by have := World.block_lt_of_cell? _ _ hw198_0; first | rwa [add_block] at this | exact this) GW181.out)) | (show (Addr.add _ _).block ≠ _; rw [add_block]; exact Nat.ne_of_lt (Nat.lt_of_lt_of_le (by have := World.block_lt_of_cell? _ _ hw198_0; first | rwa [add_block] at this | exact this) GW181.out)) | (dsimp only; exact Nat.ne_of_lt (Nat.lt_of_lt_of_le (by have := World.block_lt_of_cell? _ _ hw198_0; first | rwa [add_block] at this | exact this) GW181.out))) _).trans (((cell_far (p := ⟨gb181, _, none⟩) (by first | exact Nat.ne_of_lt (Nat.lt_of_lt_of_le (by have := World.block_lt_of_cell? _ _ hw198_0; first | rwa [add_block] at this | exact this) GW181.out) | (rw [add_block]; exact Nat.ne_of_lt (Nat.lt_of_lt_of_le (by have := World.block_lt_of_cell? _ _ hw198_0; first | rwa [add_block] at this | exact this) GW181.out)) | (show (Addr.add _ _).block ≠ _; rw [add_block]; exact Nat.ne_of_lt (Nat.lt_of_lt_of_le (by have := World.block_lt_of_cell? _ _ hw198_0; first | rwa [add_block] at this | exact this) GW181.out)) | (dsimp only; exact Nat.ne_of_lt (Nat.lt_of_lt_of_le (by have := World.block_lt_of_cell? _ _ hw198_0; first | rwa [add_block] at this | exact this) GW181.out))) _).trans (((cell_far (p := ⟨gb181, _, none⟩) (by first | exact Nat.ne_of_lt (Nat.lt_of_lt_of_le (by have := World.block_lt_of_cell? _ _ hw198_0; first | rwa [add_block] at this | exact this) GW181.out) | (rw [add_block]; exact Nat.ne_of_lt (Nat.lt_of_lt_of_le (by have := World.block_lt_of_cell? _ _ hw198_0; first | rwa [add_block] at this | exact this) GW181.out)) | (show (Addr.add _ _).block ≠ _; rw [add_block]; exact Nat.ne_of_lt (Nat.lt_of_lt_of_le (by have := World.block_lt_of_cell? _ _ hw198_0; first | rwa [add_block] at this | exact this) GW181.out)) | (dsimp only; exact Nat.ne_of_lt (Nat.lt_of_lt_of_le (by have := World.block_lt_of_cell? _ _ hw198_0; first | rwa [add_block] at this | exact this) GW181.out))) _).trans (((cell_far (p := ⟨gb181, _, none⟩) (by first | exact Nat.ne_of_lt (Nat.lt_of_lt_of_le (by have := World.block_lt_of_cell? _ _ hw198_0; first | rwa [add_block] at this | exact this) GW181.out) | (rw [add_block]; exact Nat.ne_of_lt (Nat.lt_of_lt_of_le (by have := World.block_lt_of_cell? _ _ hw198_0; first | rwa [add_block] at this | exact this) GW181.out)) | (show (Addr.add _ _).block ≠ _; rw [add_block]; exact Nat.ne_of_lt (Nat.lt_of_lt_of_le (by have := World.block_lt_of_cell? _ _ hw198_0; first | rwa [add_block] at this | exact this) GW181.out)) | (dsimp only; exact Nat.ne_of_lt (Nat.lt_of_lt_of_le (by have := World.block_lt_of_cell? _ _ hw198_0; first | rwa [add_block] at this | exact this) GW181.out))) _).trans (((cell_far (p := ⟨gb181, _, none⟩) (by first | exact Nat.ne_of_lt (Nat.lt_of_lt_of_le (by have := World.block_lt_of_cell? _ _ hw198_0; first | rwa [add_block] at this | exact this) GW181.out) | (rw [add_block]; exact Nat.ne_of_lt (Nat.lt_of_lt_of_le (by have := World.block_lt_of_cell? _ _ hw198_0; first | rwa [add_block] at this | exact this) GW181.out)) | (show (Addr.add _ _).block ≠ _; rw [add_block]; exact Nat.ne_of_lt (Nat.lt_of_lt_of_le (by have := World.block_lt_of_cell? _ _ hw198_0; first | rwa [add_block] at this | exact this) GW181.out)) | (dsimp only; exact Nat.ne_of_lt (Nat.lt_of_lt_of_le (by have := World.block_lt_of_cell? _ _ hw198_0; first | rwa [add_block] at this | exact this) GW181.out))) _).trans (((cell_far (p := ⟨gb181, _, none⟩) (by first | exact Nat.ne_of_lt (Nat.lt_of_lt_of_le (by have := World.block_lt_of_cell? _ _ hw198_0; first | rwa [add_block] at this | exact this) GW181.out) | (rw [add_block]; exact Nat.ne_of_lt (Nat.lt_of_lt_of_le (by have := World.block_lt_of_cell? _ _ hw198_0; first | rwa [add_block] at this | exact this) GW181.out)) | (show (Addr.add _ _).block ≠ _; rw [add_block]; exact Nat.ne_of_lt (Nat.lt_of_lt_of_le (by have := World.block_lt_of_cell? _ _ hw198_0; first | rwa [add_block] at this | exact this) GW181.out)) | (dsimp only; exact Nat.ne_of_lt (Nat.lt_of_lt_of_le (by have := World.block_lt_of_cell? _ _ hw198_0; first | rwa [add_block] at this | exact this) GW181.out))) _).trans (((cell_far (p := ⟨gb181, _, none⟩) (by first | exact Nat.ne_of_lt (Nat.lt_of_lt_of_le (by have := World.block_lt_of_cell? _ _ hw198_0; first | rwa [add_block] at this | exact this) GW181.out) | (rw [add_block]; exact Nat.ne_of_lt (Nat.lt_of_lt_of_le (by have := World.block_lt_of_cell? _ _ hw198_0; first | rwa [add_block] at this | exact this) GW181.out)) | (show (Addr.add _ _).block ≠ _; rw [add_block]; exact Nat.ne_of_lt (Nat.lt_of_lt_of_le (by have := World.block_lt_of_cell? _ _ hw198_0; first | rwa [add_block] at this | exact this) GW181.out)) | (dsimp only; exact Nat.ne_of_lt (Nat.lt_of_lt_of_le (by have := World.block_lt_of_cell? _ _ hw198_0; first | rwa [add_block] at this | exact this) GW181.out))) _).trans (hHeld.1)))))))))))))), ((cell_far (p := ⟨gb181, _, none⟩) (by first | exact Nat.ne_of_lt (Nat.lt_of_lt_of_le (by have := World.block_lt_of_cell? _ _ hw199_0; first | rwa [add_block] at this | exact this) GW181.out) | (rw [add_block]; exact Nat.ne_of_lt (Nat.lt_of_lt_of_le (by have := World.block_lt_of_cell? _ _ hw199_0; first | rwa [add_block] at this | exact this) GW181.out)) | (show (Addr.add _ _).block ≠ _; rw [add_block]; exact Nat.ne_of_lt (Nat.lt_of_lt_of_le (by have := World.block_lt_of_cell? _ _ hw199_0; first | rwa [add_block] at this | exact this) GW181.out)) | (dsimp only; exact Nat.ne_of_lt (Nat.lt_of_lt_of_le (by have := World.block_lt_of_cell? _ _ hw199_0; first | rwa [add_block] at this | exact this) GW181.out))) _).trans (((cell_far (p := ⟨gb181, _, none⟩) (by first | exact Nat.ne_of_lt (Nat.lt_of_lt_of_le (by have := World.block_lt_of_cell? _ _ hw199_0; first | rwa [add_block] at this | exact this) GW181.out) | (rw [add_block]; exact Nat.ne_of_lt (Nat.lt_of_lt_of_le (by have := World.block_lt_of_cell? _ _ hw199_0; first | rwa [add_block] at this | exact this) GW181.out)) | (show (Addr.add _ _).block ≠ _; rw [add_block]; exact Nat.ne_of_lt (Nat.lt_of_lt_of_le (by have := World.block_lt_of_cell? _ _ hw199_0; first | rwa [add_block] at this | exact this) GW181.out)) | (dsimp only; exact Nat.ne_of_lt (Nat.lt_of_lt_of_le (by have := World.block_lt_of_cell? _ _ hw199_0; first | rwa [add_block] at this | exact this) GW181.out))) _).trans (((cell_far (p := ⟨gb181, _, none⟩) (by first | exact Nat.ne_of_lt (Nat.lt_of_lt_of_le (by have := World.block_lt_of_cell? _ _ hw199_0; first | rwa [add_block] at this | exact this) GW181.out) | (rw [add_block]; exact Nat.ne_of_lt (Nat.lt_of_lt_of_le (by have := World.block_lt_of_cell? _ _ hw199_0; first | rwa [add_block] at this | exact this) GW181.out)) | (show (Addr.add _ _).block ≠ _; rw [add_block]; exact Nat.ne_of_lt (Nat.lt_of_lt_of_le (by have := World.block_lt_of_cell? _ _ hw199_0; first | rwa [add_block] at this | exact this) GW181.out)) | (dsimp only; exact Nat.ne_of_lt (Nat.lt_of_lt_of_le (by have := World.block_lt_of_cell? _ _ hw199_0; first | rwa [add_block] at this | exact this) GW181.out))) _).trans (((cell_far (p := ⟨gb181, _, none⟩) (by first | exact Nat.ne_of_lt (Nat.lt_of_lt_of_le (by have := World.block_lt_of_cell? _ _ hw199_0; first | rwa [add_block] at this | exact this) GW181.out) | (rw [add_block]; exact Nat.ne_of_lt (Nat.lt_of_lt_of_le (by have := World.block_lt_of_cell? _ _ hw199_0; first | rwa [add_block] at this | exact this) GW181.out)) | (show (Addr.add _ _).block ≠ _; rw [add_block]; exact Nat.ne_of_lt (Nat.lt_of_lt_of_le (by have := World.block_lt_of_cell? _ _ hw199_0; first | rwa [add_block] at this | exact this) GW181.out)) | (dsimp only; exact Nat.ne_of_lt (Nat.lt_of_lt_of_le (by have := World.block_lt_of_cell? _ _ hw199_0; first | rwa [add_block] at this | exact this) GW181.out))) _).trans (((cell_far (p := ⟨gb181, _, none⟩) (by first | exact Nat.ne_of_lt (Nat.lt_of_lt_of_le (by have := World.block_lt_of_cell? _ _ hw199_0; first | rwa [add_block] at this | exact this) GW181.out) | (rw [add_block]; exact Nat.ne_of_lt (Nat.lt_of_lt_of_le (by have := World.block_lt_of_cell? _ _ hw199_0; first | rwa [add_block] at this | exact this) GW181.out)) | (show (Addr.add _ _).block ≠ _; rw [add_block]; exact Nat.ne_of_lt (Nat.lt_of_lt_of_le (by have := World.block_lt_of_cell? _ _ hw199_0; first | rwa [add_block] at this | exact this) GW181.out)) | (dsimp only; exact Nat.ne_of_lt (Nat.lt_of_lt_of_le (by have := World.block_lt_of_cell? _ _ hw199_0; first | rwa [add_block] at this | exact this) GW181.out))) _).trans (((cell_far (p := ⟨gb181, _, none⟩) (by first | exact Nat.ne_of_lt (Nat.lt_of_lt_of_le (by have := World.block_lt_of_cell? _ _ hw199_0; first | rwa [add_block] at this | exact this) GW181.out) | (rw [add_block]; exact Nat.ne_of_lt (Nat.lt_of_lt_of_le (by have := World.block_lt_of_cell? _ _ hw199_0; first | rwa [add_block] at this | exact this) GW181.out)) | (show (Addr.add _ _).block ≠ _; rw [add_block]; exact Nat.ne_of_lt (Nat.lt_of_lt_of_le (by have := World.block_lt_of_cell? _ _ hw199_0; first | rwa [add_block] at this | exact this) GW181.out)) | (dsimp only; exact Nat.ne_of_lt (Nat.lt_of_lt_of_le (by have := World.block_lt_of_cell? _ _ hw199_0; first | rwa [add_block] at this | exact this) GW181.out))) _).trans (((cell_far (p := ⟨gb181, _, none⟩) (by first | exact Nat.ne_of_lt (Nat.lt_of_lt_of_le (by have := World.block_lt_of_cell? _ _ hw199_0; first | rwa [add_block] at this | exact this) GW181.out) | (rw [add_block]; exact Nat.ne_of_lt (Nat.lt_of_lt_of_le (by have := World.block_lt_of_cell? _ _ hw199_0; first | rwa [add_block] at this | exact this) GW181.out)) | (show (Addr.add _ _).block ≠ _; rw [add_block]; exact Nat.ne_of_lt (Nat.lt_of_lt_of_le (by have := World.block_lt_of_cell? _ _ hw199_0; first | rwa [add_block] at this | exact this) GW181.out)) | (dsimp only; exact Nat.ne_of_lt (Nat.lt_of_lt_of_le (by have := World.block_lt_of_cell? _ _ hw199_0; first | rwa [add_block] at this | exact this) GW181.out))) _).trans (hHeld.2.1)))))))))))))), ((cell_far (p := ⟨gb181, _, none⟩) (by first | exact Nat.ne_of_lt (Nat.lt_of_lt_of_le (by have := World.block_lt_of_cell? _ _ hw200_0; first | rwa [add_block] at this | exact this) GW181.out) | (rw [add_block]; exact Nat.ne_of_lt (Nat.lt_of_lt_of_le (by have := World.block_lt_of_cell? _ _ hw200_0; first | rwa [add_block] at this | exact this) GW181.out)) | (show (Addr.add _ _).block ≠ _; rw [add_block]; exact Nat.ne_of_lt (Nat.lt_of_lt_of_le (by have := World.block_lt_of_cell? _ _ hw200_0; first | rwa [add_block] at this | exact this) GW181.out)) | (dsimp only; exact Nat.ne_of_lt (Nat.lt_of_lt_of_le (by have := World.block_lt_of_cell? _ _ hw200_0; first | rwa [add_block] at this | exact this) GW181.out))) _).trans (((cell_far (p := ⟨gb181, _, none⟩) (by first | exact Nat.ne_of_lt (Nat.lt_of_lt_of_le (by have := World.block_lt_of_cell? _ _ hw200_0; first | rwa [add_block] at this | exact this) GW181.out) | (rw [add_block]; exact Nat.ne_of_lt (Nat.lt_of_lt_of_le (by have := World.block_lt_of_cell? _ _ hw200_0; first | rwa [add_block] at this | exact this) GW181.out)) | (show (Addr.add _ _).block ≠ _; rw [add_block]; exact Nat.ne_of_lt (Nat.lt_of_lt_of_le (by have := World.block_lt_of_cell? _ _ hw200_0; first | rwa [add_block] at this | exact this) GW181.out)) | (dsimp only; exact Nat.ne_of_lt (Nat.lt_of_lt_of_le (by have := World.block_lt_of_cell? _ _ hw200_0; first | rwa [add_block] at this | exact this) GW181.out))) _).trans (((cell_far (p := ⟨gb181, _, none⟩) (by first | exact Nat.ne_of_lt (Nat.lt_of_lt_of_le (by have := World.block_lt_of_cell? _ _ hw200_0; first | rwa [add_block] at this | exact this) GW181.out) | (rw [add_block]; exact Nat.ne_of_lt (Nat.lt_of_lt_of_le (by have := World.block_lt_of_cell? _ _ hw200_0; first | rwa [add_block] at this | exact this) GW181.out)) | (show (Addr.add _ _).block ≠ _; rw [add_block]; exact Nat.ne_of_lt (Nat.lt_of_lt_of_le (by have := World.block_lt_of_cell? _ _ hw200_0; first | rwa [add_block] at this | exact this) GW181.out)) | (dsimp only; exact Nat.ne_of_lt (Nat.lt_of_lt_of_le (by have := World.block_lt_of_cell? _ _ hw200_0; first | rwa [add_block] at this | exact this) GW181.out))) _).trans (((cell_far (p := ⟨gb181, _, none⟩) (by first | exact Nat.ne_of_lt (Nat.lt_of_lt_of_le (by have := World.block_lt_of_cell? _ _ hw200_0; first | rwa [add_block] at this | exact this) GW181.out) | (rw [add_block]; exact Nat.ne_of_lt (Nat.lt_of_lt_of_le (by have := World.block_lt_of_cell? _ _ hw200_0; first | rwa [add_block] at this | exact this) GW181.out)) | (show (Addr.add _ _).block ≠ _; rw [add_block]; exact Nat.ne_of_lt (Nat.lt_of_lt_of_le (by have := World.block_lt_of_cell? _ _ hw200_0; first | rwa [add_block] at this | exact this) GW181.out)) | (dsimp only; exact Nat.ne_of_lt (Nat.lt_of_lt_of_le (by have := World.block_lt_of_cell? _ _ hw200_0; first | rwa [add_block] at this | exact this) GW181.out))) _).trans (((cell_far (p := ⟨gb181, _, none⟩) (by first | exact Nat.ne_of_lt (Nat.lt_of_lt_of_le (by have := World.block_lt_of_cell? _ _ hw200_0; first | rwa [add_block] at this | exact this) GW181.out) | (rw [add_block]; exact Nat.ne_of_lt (Nat.lt_of_lt_of_le (by have := World.block_lt_of_cell? _ _ hw200_0; first | rwa [add_block] at this | exact this) GW181.out)) | (show (Addr.add _ _).block ≠ _; rw [add_block]; exact Nat.ne_of_lt (Nat.lt_of_lt_of_le (by have := World.block_lt_of_cell? _ _ hw200_0; first | rwa [add_block] at this | exact this) GW181.out)) | (dsimp only; exact Nat.ne_of_lt (Nat.lt_of_lt_of_le (by have := World.block_lt_of_cell? _ _ hw200_0; first | rwa [add_block] at this | exact this) GW181.out))) _).trans (((cell_far (p := ⟨gb181, _, none⟩) (by first | exact Nat.ne_of_lt (Nat.lt_of_lt_of_le (by have := World.block_lt_of_cell? _ _ hw200_0; first | rwa [add_block] at this | exact this) GW181.out) | (rw [add_block]; exact Nat.ne_of_lt (Nat.lt_of_lt_of_le (by have := World.block_lt_of_cell? _ _ hw200_0; first | rwa [add_block] at this | exact this) GW181.out)) | (show (Addr.add _ _).block ≠ _; rw [add_block]; exact Nat.ne_of_lt (Nat.lt_of_lt_of_le (by have := World.block_lt_of_cell? _ _ hw200_0; first | rwa [add_block] at this | exact this) GW181.out)) | (dsimp only; exact Nat.ne_of_lt (Nat.lt_of_lt_of_le (by have := World.block_lt_of_cell? _ _ hw200_0; first | rwa [add_block] at this | exact this) GW181.out))) _).trans (((cell_far (p := ⟨gb181, _, none⟩) (by first | exact Nat.ne_of_lt (Nat.lt_of_lt_of_le (by have := World.block_lt_of_cell? _ _ hw200_0; first | rwa [add_block] at this | exact this) GW181.out) | (rw [add_block]; exact Nat.ne_of_lt (Nat.lt_of_lt_of_le (by have := World.block_lt_of_cell? _ _ hw200_0; first | rwa [add_block] at this | exact this) GW181.out)) | (show (Addr.add _ _).block ≠ _; rw [add_block]; exact Nat.ne_of_lt (Nat.lt_of_lt_of_le (by have := World.block_lt_of_cell? _ _ hw200_0; first | rwa [add_block] at this | exact this) GW181.out)) | (dsimp only; exact Nat.ne_of_lt (Nat.lt_of_lt_of_le (by have := World.block_lt_of_cell? _ _ hw200_0; first | rwa [add_block] at this | exact this) GW181.out))) _).trans (hHeld.2.2.1)))))))))))))), ((cell_far (p := ⟨gb181, _, none⟩) (by first | exact Nat.ne_of_lt (Nat.lt_of_lt_of_le (by have := World.block_lt_of_cell? _ _ hw201_0; first | rwa [add_block] at this | exact this) GW181.out) | (rw [add_block]; exact Nat.ne_of_lt (Nat.lt_of_lt_of_le (by have := World.block_lt_of_cell? _ _ hw201_0; first | rwa [add_block] at this | exact this) GW181.out)) | (show (Addr.add _ _).block ≠ _; rw [add_block]; exact Nat.ne_of_lt (Nat.lt_of_lt_of_le (by have := World.block_lt_of_cell? _ _ hw201_0; first | rwa [add_block] at this | exact this) GW181.out)) | (dsimp only; exact Nat.ne_of_lt (Nat.lt_of_lt_of_le (by have := World.block_lt_of_cell? _ _ hw201_0; first | rwa [add_block] at this | exact this) GW181.out))) _).trans (((cell_far (p := ⟨gb181, _, none⟩) (by first | exact Nat.ne_of_lt (Nat.lt_of_lt_of_le (by have := World.block_lt_of_cell? _ _ hw201_0; first | rwa [add_block] at this | exact this) GW181.out) | (rw [add_block]; exact Nat.ne_of_lt (Nat.lt_of_lt_of_le (by have := World.block_lt_of_cell? _ _ hw201_0; first | rwa [add_block] at this | exact this) GW181.out)) | (show (Addr.add _ _).block ≠ _; rw [add_block]; exact Nat.ne_of_lt (Nat.lt_of_lt_of_le (by have := World.block_lt_of_cell? _ _ hw201_0; first | rwa [add_block] at this | exact this) GW181.out)) | (dsimp only; exact Nat.ne_of_lt (Nat.lt_of_lt_of_le (by have := World.block_lt_of_cell? _ _ hw201_0; first | rwa [add_block] at this | exact this) GW181.out))) _).trans (((cell_far (p := ⟨gb181, _, none⟩) (by first | exact Nat.ne_of_lt (Nat.lt_of_lt_of_le (by have := World.block_lt_of_cell? _ _ hw201_0; first | rwa [add_block] at this | exact this) GW181.out) | (rw [add_block]; exact Nat.ne_of_lt (Nat.lt_of_lt_of_le (by have := World.block_lt_of_cell? _ _ hw201_0; first | rwa [add_block] at this | exact this) GW181.out)) | (show (Addr.add _ _).block ≠ _; rw [add_block]; exact Nat.ne_of_lt (Nat.lt_of_lt_of_le (by have := World.block_lt_of_cell? _ _ hw201_0; first | rwa [add_block] at this | exact this) GW181.out)) | (dsimp only; exact Nat.ne_of_lt (Nat.lt_of_lt_of_le (by have := World.block_lt_of_cell? _ _ hw201_0; first | rwa [add_block] at this | exact this) GW181.out))) _).trans (((cell_far (p := ⟨gb181, _, none⟩) (by first | exact Nat.ne_of_lt (Nat.lt_of_lt_of_le (by have := World.block_lt_of_cell? _ _ hw201_0; first | rwa [add_block] at this | exact this) GW181.out) | (rw [add_block]; exact Nat.ne_of_lt (Nat.lt_of_lt_of_le (by have := World.block_lt_of_cell? _ _ hw201_0; first | rwa [add_block] at this | exact this) GW181.out)) | (show (Addr.add _ _).block ≠ _; rw [add_block]; exact Nat.ne_of_lt (Nat.lt_of_lt_of_le (by have := World.block_lt_of_cell? _ _ hw201_0; first | rwa [add_block] at this | exact this) GW181.out)) | (dsimp only; exact Nat.ne_of_lt (Nat.lt_of_lt_of_le (by have := World.block_lt_of_cell? _ _ hw201_0; first | rwa [add_block] at this | exact this) GW181.out))) _).trans (((cell_far (p := ⟨gb181, _, none⟩) (by first | exact Nat.ne_of_lt (Nat.lt_of_lt_of_le (by have := World.block_lt_of_cell? _ _ hw201_0; first | rwa [add_block] at this | exact this) GW181.out) | (rw [add_block]; exact Nat.ne_of_lt (Nat.lt_of_lt_of_le (by have := World.block_lt_of_cell? _ _ hw201_0; first | rwa [add_block] at this | exact this) GW181.out)) | (show (Addr.add _ _).block ≠ _; rw [add_block]; exact Nat.ne_of_lt (Nat.lt_of_lt_of_le (by have := World.block_lt_of_cell? _ _ hw201_0; first | rwa [add_block] at this | exact this) GW181.out)) | (dsimp only; exact Nat.ne_of_lt (Nat.lt_of_lt_of_le (by have := World.block_lt_of_cell? _ _ hw201_0; first | rwa [add_block] at this | exact this) GW181.out))) _).trans (((cell_far (p := ⟨gb181, _, none⟩) (by first | exact Nat.ne_of_lt (Nat.lt_of_lt_of_le (by have := World.block_lt_of_cell? _ _ hw201_0; first | rwa [add_block] at this | exact this) GW181.out) | (rw [add_block]; exact Nat.ne_of_lt (Nat.lt_of_lt_of_le (by have := World.block_lt_of_cell? _ _ hw201_0; first | rwa [add_block] at this | exact this) GW181.out)) | (show (Addr.add _ _).block ≠ _; rw [add_block]; exact Nat.ne_of_lt (Nat.lt_of_lt_of_le (by have := World.block_lt_of_cell? _ _ hw201_0; first | rwa [add_block] at this | exact this) GW181.out)) | (dsimp only; exact Nat.ne_of_lt (Nat.lt_of_lt_of_le (by have := World.block_lt_of_cell? _ _ hw201_0; first | rwa [add_block] at this | exact this) GW181.out))) _).trans (((cell_far (p := ⟨gb181, _, none⟩) (by first | exact Nat.ne_of_lt (Nat.lt_of_lt_of_le (by have := World.block_lt_of_cell? _ _ hw201_0; first | rwa [add_block] at this | exact this) GW181.out) | (rw [add_block]; exact Nat.ne_of_lt (Nat.lt_of_lt_of_le (by have := World.block_lt_of_cell? _ _ hw201_0; first | rwa [add_block] at this | exact this) GW181.out)) | (show (Addr.add _ _).block ≠ _; rw [add_block]; exact Nat.ne_of_lt (Nat.lt_of_lt_of_le (by have := World.block_lt_of_cell? _ _ hw201_0; first | rwa [add_block] at this | exact this) GW181.out)) | (dsimp only; exact Nat.ne_of_lt (Nat.lt_of_lt_of_le (by have := World.block_lt_of_cell? _ _ hw201_0; first | rwa [add_block] at this | exact this) GW181.out))) _).trans (hHeld.2.2.2))))))))))))))⟩ (fun hHeld => ?_)
                                clear hK K
                                refine pure_ (i := 14) (N := some 5) (v := ?_) (a' := ?_) #[true, true, true, true, true, true, true, true, true, true, true, true, true, true, true] rfl rfl (any_of HT_.out (by kernel_rfl)) (fun _ _ _ h => h) (Or.inl ⟨by rfl, ?_⟩) ?_ ?_
                                rotate_left
                                · intro w'
                                  go_simp
                                  with_reducible rfl
                                rotate_left
                                · simp only [Act.put, List.setIfInBounds_toArray, List.set_cons_zero, List.set_cons_succ, i64_w, i32_w]
                                  rfl
                                refine done_ (done_of HT_.out (by kernel_rfl)) ?_
                                try go_wp2
                                refine bodyPost_ret (results_ct rfl _ _ gb181 24 #[.int .u32 (rd l1 0), .int .u32 (rd l1 1), .int .u32 (rd l1 2), .int .u32 (rd l1 3), .int .u32 0, .int .u32 0, .int .u32 0] (0, 0) _ rfl (by (with_reducible repeat (first | refine blk_drewN ?_ _ | refine blk_drew ?_ | refine blk_alloc ?_ _)); refine blk_put (cs := #[.int .u32 (rd l1 0), .int .u32 (rd l1 1), .int .u32 (rd l1 2), .int .u32 (rd l1 3), .int .u32 0, .int .u32 0, .int .u32 0]) ?_ 6 _ rfl; (with_reducible repeat (first | refine blk_drewN ?_ _ | refine blk_drew ?_ | refine blk_alloc ?_ _)); refine blk_put (cs := #[.int .u32 (rd l1 0), .int .u32 (rd l1 1), .int .u32 (rd l1 2), .int .u32 (rd l1 3), .int .u32 0, .int .u32 0, .int .u32 0]) ?_ 5 _ rfl; (with_reducible repeat (first | refine blk_drewN ?_ _ | refine blk_drew ?_ | refine blk_alloc ?_ _)); refine blk_put (cs := #[.int .u32 (rd l1 0), .int .u32 (rd l1 1), .int .u32 (rd l1 2), .int .u32 (rd l1 3), .int .u32 0, .int .u32 0, .int .u32 0]) ?_ 4 _ rfl; (with_reducible repeat (first | refine blk_drewN ?_ _ | refine blk_drew ?_ | refine blk_alloc ?_ _)); refine blk_put (cs := #[.int .u32 (rd l1 0), .int .u32 (rd l1 1), .int .u32 (rd l1 2), .int .u32 0, .int .u32 0, .int .u32 0, .int .u32 0]) ?_ 3 _ rfl; (with_reducible repeat (first | refine blk_drewN ?_ _ | refine blk_drew ?_ | refine blk_alloc ?_ _)); refine blk_put (cs := #[.int .u32 (rd l1 0), .int .u32 (rd l1 1), .int .u32 0, .int .u32 0, .int .u32 0, .int .u32 0, .int .u32 0]) ?_ 2 _ rfl; (with_reducible repeat (first | refine blk_drewN ?_ _ | refine blk_drew ?_ | refine blk_alloc ?_ _)); refine blk_put (cs := #[.int .u32 (rd l1 0), .int .u32 0, .int .u32 0, .int .u32 0, .int .u32 0, .int .u32 0, .int .u32 0]) ?_ 1 _ rfl; (with_reducible repeat (first | refine blk_drewN ?_ _ | refine blk_drew ?_ | refine blk_alloc ?_ _)); refine blk_put (cs := #[.int .u32 0, .int .u32 0, .int .u32 0, .int .u32 0, .int .u32 0, .int .u32 0, .int .u32 0]) ?_ 0 _ rfl; (with_reducible repeat (first | refine blk_drewN ?_ _ | refine blk_drew ?_ | refine blk_alloc ?_ _)); exact BK181.out) Try.underlying24 rfl (by kernel_rfl)) rfl ?_
                                exact ⟨by first | rfl | (simp [errW_none, errW_some] <;> rfl) | (simp [*, errW_none, errW_some] <;> rfl), by repeat (first | (with_reducible first | exact HB.out | apply below_alloc | apply pw_below_drewN | apply below_drew1 | refine below_set ?_ GE181.out) | exact HB.out)⟩
                              · rw [if_neg c64] at H
                                exact absurd H (by simp)
                            · rw [if_neg c63] at H
                              exact absurd H (by simp)
                          · rw [if_neg c62] at H
                            exact absurd H (by simp)
                        · rw [if_neg c61] at H
                          exact absurd H (by simp)
                      · rw [if_neg c60] at H
                        have c60b0 : (a0 == 7) = false := beq_eq_false_iff_ne.mpr c60
                        have c60b1 : (a0 != 7) = true := bne_iff_ne.mpr c60
                        by_cases c73 : 0 < (l1.length : Int)
                        · rw [if_pos c73] at H
                          have c73b0 : decide (0 < (l1.length : Int)) = true := decide_eq_true c73
                          have c73b1 : decide (0 < l1.length) = true := decide_eq_true (by omega)
                          clear c73
                          by_cases c74 : 1 < (l1.length : Int)
                          · rw [if_pos c74] at H
                            have c74b0 : decide (1 < (l1.length : Int)) = true := decide_eq_true c74
                            have c74b1 : decide (1 < l1.length) = true := decide_eq_true (by omega)
                            clear c74
                            simp only [Option.some.injEq, Prod.mk.injEq] at H
                            obtain ⟨rfl, rfl, rfl, rfl, rfl, rfl, rfl, rfl⟩ := H
                            try go_wp2
                            have n0_ := Aside0.mk (blk_drew BK181.out)
                            have n1_ := Aside0.mk (below_drew1 HB.out)
                            clear BK181
                            clear HB
                            have BK181 := n0_
                            have HB := n1_
                            clear n0_ n1_
                            have p202 : 0 ≤ (0 : Int) := (by omega)
                            have q202 : 0 < (l1.length : Int) := of_decide_eq_true (by first | (with_reducible assumption) | assumption)
                            obtain ⟨ad202, e202, hx202_0⟩ := Kd.at_int HR1.out 0 p202 q202
                            have hw202_0 := hx202_0
                            (try rw [show ((0 : Int)).toNat = 0 from rfl] at hw202_0)
                            (try rw [show 0 * 1 = 0 from rfl] at hw202_0)
                            (try rw [Addr.add_zero'] at hw202_0)
                            cases e202
                            have qi202 : (0 < l1.length) = True := eq_true (by omega)
                            (try rw [show ((0 : Int)).toNat = 0 from rfl] at hx202_0)
                            (try rw [Addr.add_zero'] at hx202_0)
                            replace hx202_0 := (HB.out.cell (World.block_lt_of_cell? w _ hx202_0)).trans hx202_0
                            replace p202 := eq_true p202
                            replace q202 := eq_true q202
                            have p203 : 0 ≤ (1 : Int) := (by omega)
                            have q203 : 1 < (l1.length : Int) := of_decide_eq_true (by first | (with_reducible assumption) | assumption)
                            obtain ⟨ad203, e203, hx203_0⟩ := Kd.at_int HR1.out 1 p203 q203
                            have hw203_0 := hx203_0
                            (try rw [show ((1 : Int)).toNat = 1 from rfl] at hw203_0)
                            (try rw [show 1 * 1 = 1 from rfl] at hw203_0)
                            (try simp only [Nat.reduceMul, Nat.reduceEqDiff, Go.Addr.add, ↓reduceIte] at hw203_0)
                            obtain rfl : ad202 = ad203 := (by injection e203)
                            (try simp only [show (1 : Int).toNat = 1 from rfl, Nat.reduceMul, Nat.reduceEqDiff, Go.Addr.add, ↓reduceIte] at hx203_0)
                            have qi203 : (1 < l1.length) = True := eq_true (by omega)
                            (try rw [show ((1 : Int)).toNat = 1 from rfl] at hx203_0)
                            replace hx203_0 := (HB.out.cell (World.block_lt_of_cell? w _ hx203_0)).trans hx203_0
                            replace p203 := eq_true p203
                            replace q203 := eq_true q203
                            refine start_ (n := 9) (S := fun w' => w'.cell? ad202 = some (.int .u32 (rd l1 0)) ∧ w'.cell? ⟨ad202.block, ad202.off + 1, none⟩ = some (.int .u32 (rd l1 1))) (ds := []) #[false, false, false, false, false, false, false, false, false] (by kernel_rfl) rfl rfl ⟨((HB.out.cell (World.block_lt_of_cell? w _ hw202_0)).trans hw202_0), ((HB.out.cell (World.block_lt_of_cell? w _ hw203_0)).trans hw203_0)⟩ (fun hHeld => ?_); refine with_tabW chamberlainref11_Get.tab16 chamberlainref11_Get.bits16 (fun HT_ HW_ => ?_)
                            generalize wc.drew = w75 at BK181 HB hx202_0 hx203_0 hHeld ⊢
                            refine pure_ (i := 0) (N := some 75) (v := ?_) (a' := ?_) #[true, false, false, false, false, false, false, false, false] rfl rfl (any_of HT_.out (by kernel_rfl)) (fun _ _ _ h => h) (Or.inl ⟨by rfl, ?_⟩) ?_ ?_
                            rotate_left
                            · intro w'
                              go_simp
                              with_reducible rfl
                            rotate_left
                            · simp only [Act.put, List.setIfInBounds_toArray, List.set_cons_zero, List.set_cons_succ, i64_w, i32_w]
                              rfl
                            refine pure_ (i := 1) (N := some 76) (v := ?_) (a' := ?_) #[true, true, false, false, false, false, false, false, false] rfl rfl (any_of HT_.out (by kernel_rfl)) (fun _ _ _ h => h) (Or.inl ⟨by rfl, ?_⟩) ?_ ?_
                            rotate_left
                            · intro w'
                              go_simp
                              with_reducible rfl
                            rotate_left
                            · simp only [Act.put, List.setIfInBounds_toArray, List.set_cons_zero, List.set_cons_succ, i64_w, i32_w]
                              rfl
                            refine pure_ (i := 3) (N := some 78) (v := ?_) (a' := ?_) #[true, true, false, true, false, false, false, false, false] rfl rfl (any_of HT_.out (by kernel_rfl)) (fun _ _ _ h => h) (Or.inl ⟨by rfl, ?_⟩) ?_ ?_
                            rotate_left
                            · intro w'
                              go_simp
                              with_reducible rfl
                            rotate_left
                            · simp only [Act.put, List.setIfInBounds_toArray, List.set_cons_zero, List.set_cons_succ, i64_w, i32_w]
                              rfl
                            refine pure_ (i := 4) (N := some 79) (v := ?_) (a' := ?_) #[true, true, false, true, true, false, false, false, false] rfl rfl (any_of HT_.out (by kernel_rfl)) (fun _ _ _ h => h) (Or.inl ⟨by rfl, ?_⟩) ?_ ?_
                            rotate_left
                            · intro w'
                              go_simp
                              with_reducible rfl
                            rotate_left
                            · simp only [Act.put, List.setIfInBounds_toArray, List.set_cons_zero, List.set_cons_succ, i64_w, i32_w]
                              rfl
                            refine take_ (i := 2) (N := some 77) (v := ?_) (a' := ?_) #[true, true, true, true, true, false, false, false, false] rfl rfl (take_ofW HT_.out HW_.out (by kernel_rfl)) (fun _ _ _ h => h) (Or.inl ⟨by rfl, ?_⟩) hHeld ?_ ?_
                            rotate_left
                            · rintro w' ⟨s0, s1⟩
                              go_simp
                              with_reducible rfl
                            rotate_left
                            · simp only [Act.put, List.setIfInBounds_toArray, List.set_cons_zero, List.set_cons_succ, i64_w, i32_w]
                              rfl
                            refine take_ (i := 5) (N := some 80) (v := ?_) (a' := ?_) #[true, true, true, true, true, true, false, false, false] rfl rfl (take_ofW HT_.out HW_.out (by kernel_rfl)) (fun _ _ _ h => h) (Or.inl ⟨by rfl, ?_⟩) hHeld ?_ ?_
                            rotate_left
                            · rintro w' ⟨s0, s1⟩
                              go_simp
                              with_reducible rfl
                            rotate_left
                            · simp only [Act.put, List.setIfInBounds_toArray, List.set_cons_zero, List.set_cons_succ, i64_w, i32_w]
                              rfl
                            refine pure_ (i := 6) (N := some 81) (v := ?_) (a' := ?_) #[true, true, true, true, true, true, true, false, false] rfl rfl (any_of HT_.out (by kernel_rfl)) (fun _ _ _ h => h) (Or.inl ⟨by rfl, ?_⟩) ?_ ?_
                            rotate_left
                            · intro w'
                              go_simp
                              with_reducible rfl
                            rotate_left
                            · simp only [Act.put, List.setIfInBounds_toArray, List.set_cons_zero, List.set_cons_succ, i64_w, i32_w]
                              rfl
                            refine one_ (i := 7) (N := none) #[true, true, true, true, true, true, true, true, false] rfl rfl (one_of HT_.out (by kernel_rfl)) (by decide) (fun K hK => ?_)
                            have hs76 : w75.cell? ⟨gb181, 0, none⟩ = some (.int .u32 0) := (blk_cell BK181.out 0).trans rfl
                            have hfs76 := blk_frozen BK181.out 0
                            have hs77 : w75.cell? ⟨gb181, 1, none⟩ = some (.int .u32 0) := (blk_cell BK181.out 1).trans rfl
                            have hfs77 := blk_frozen BK181.out 1
                            have hs78 : w75.cell? ⟨gb181, 2, none⟩ = some (.int .u32 0) := (blk_cell BK181.out 2).trans rfl
                            have hfs78 := blk_frozen BK181.out 2
                            have hs79 : w75.cell? ⟨gb181, 3, none⟩ = some (.int .u32 0) := (blk_cell BK181.out 3).trans rfl
                            have hfs79 := blk_frozen BK181.out 3
                            have hs80 : w75.cell? ⟨gb181, 4, none⟩ = some (.int .u32 0) := (blk_cell BK181.out 4).trans rfl
                            have hfs80 := blk_frozen BK181.out 4
                            have hs81 : w75.cell? ⟨gb181, 5, none⟩ = some (.int .u32 0) := (blk_cell BK181.out 5).trans rfl
                            have hfs81 := blk_frozen BK181.out 5
                            have hs82 : w75.cell? ⟨gb181, 6, none⟩ = some (.int .u32 0) := (blk_cell BK181.out 6).trans rfl
                            have hfs82 := blk_frozen BK181.out 6
                            refine skip_ (w1 := ?_) (by rfl) rfl ?_ ?_
                            rotate_left
                            · go_simp
                              rfl
                            refine hK.out _ _ ⟨((cell_far (p := ⟨gb181, _, none⟩) (by first | exact Nat.ne_of_lt (Nat.lt_of_lt_of_le (by have := World.block_lt_of_cell? _ _ hw202_0; first | rwa [add_block] at this | exact this) GW181.out) | (rw [add_block]; exact Nat.ne_of_lt (Nat.lt_of_lt_of_le (by have := World.block_lt_of_cell? _ _ hw202_0; first | rwa [add_block] at this | exact this) GW181.out)) | (show (Addr.add _ _).block ≠ _; rw [add_block]; exact Nat.ne_of_lt (Nat.lt_of_lt_of_le (by have := World.block_lt_of_cell? _ _ hw202_0; first | rwa [add_block] at this | exact this) GW181.out)) | (dsimp only; exact Nat.ne_of_lt (Nat.lt_of_lt_of_le (by have := World.block_lt_of_cell? _ _ hw202_0; first | rwa [add_block] at this | exact this) GW181.out))) _).trans (((cell_far (p := ⟨gb181, _, none⟩) (by first | exact Nat.ne_of_lt (Nat.lt_of_lt_of_le (by have := World.block_lt_of_cell? _ _ hw202_0; first | rwa [add_block] at this | exact this) GW181.out) | (rw [add_block]; exact Nat.ne_of_lt (Nat.lt_of_lt_of_le (by have := World.block_lt_of_cell? _ _ hw202_0; first | rwa [add_block] at this | exact this) GW181.out)) | (show (Addr.add _ _).block ≠ _; rw [add_block]; exact Nat.ne_of_lt (Nat.lt_of_lt_of_le (by have := World.block_lt_of_cell? _ _ hw202_0; first | rwa [add_block] at this | exact this) GW181.out)) | (dsimp only; exact Nat.ne_of_lt (Nat.lt_of_lt_of_le (by have := World.block_lt_of_cell? _ _ hw202_0; first | rwa [add_block] at this | exact this) GW181.out))) _).trans (((cell_far (p := ⟨gb181, _, none⟩) (by first | exact Nat.ne_of_lt (Nat.lt_of_lt_of_le (by have := World.block_lt_of_cell? _ _ hw202_0; first | rwa [add_block] at this | exact this) GW181.out) | (rw [add_block]; exact Nat.ne_of_lt (Nat.lt_of_lt_of_le (by have := World.block_lt_of_cell? _ _ hw202_0; first | rwa [add_block] at this | exact this) GW181.out)) | (show (Addr.add _ _).block ≠ _; rw [add_block]; exact Nat.ne_of_lt (Nat.lt_of_lt_of_le (by have := World.block_lt_of_cell? _ _ hw202_0; first | rwa [add_block] at this | exact this) GW181.out)) | (dsimp only; exact Nat.ne_of_lt (Nat.lt_of_lt_of_le (by have := World.block_lt_of_cell? _ _ hw202_0; first | rwa [add_block] at this | exact this) GW181.out))) _).trans (((cell_far (p := ⟨gb181, _, none⟩) (by first | exact Nat.ne_of_lt (Nat.lt_of_lt_of_le (by have := World.block_lt_of_cell? _ _ hw202_0; first | rwa [add_block] at this | exact this) GW181.out) | (rw [add_block]; exact Nat.ne_of_lt (Nat.lt_of_lt_of_le (by have := World.block_lt_of_cell? _ _ hw202_0; first | rwa [add_block] at this | exact this) GW181.out)) | (show (Addr.add _ _).block ≠ _; rw [add_block]; exact Nat.ne_of_lt (Nat.lt_of_lt_of_le (by have := World.block_lt_of_cell? _ _ hw202_0; first | rwa [add_block] at this | exact this) GW181.out)) | (dsimp only; exact Nat.ne_of_lt (Nat.lt_of_lt_of_le (by have := World.block_lt_of_cell? _ _ hw202_0; first | rwa [add_block] at this | exact this) GW181.out))) _).trans (((cell_far (p := ⟨gb181, _, none⟩) (by first | exact Nat.ne_of_lt (Nat.lt_of_lt_of_le (by have := World.block_lt_of_cell? _ _ hw202_0; first | rwa [add_block] at this | exact this) GW181.out) | (rw [add_block]; exact Nat.ne_of_lt (Nat.lt_of_lt_of_le (by have := World.block_lt_of_cell? _ _ hw202_0; first | rwa [add_block] at this | exact this) GW181.out)) | (show (Addr.add _ _).block ≠ _; rw [add_block]; exact Nat.ne_of_lt (Nat.lt_of_lt_of_le (by have := World.block_lt_of_cell? _ _ hw202_0; first | rwa [add_block] at this | exact this) GW181.out)) | (dsimp only; exact Nat.ne_of_lt (Nat.lt_of_lt_of_le (by have := World.block_lt_of_cell? _ _ hw202_0; first | rwa [add_block] at this | exact this) GW181.out))) _).trans (((cell_far (p := ⟨gb181, _, none⟩) (by first | exact Nat.ne_of_lt (Nat.lt_of_lt_of_le (by have := World.block_lt_of_cell? _ _ hw202_0; first | rwa [add_block] at this | exact this) GW181.out) | (rw [add_block]; exact Nat.ne_of_lt (Nat.lt_of_lt_of_le (by have := World.block_lt_of_cell? _ _ hw202_0; first | rwa [add_block] at this | exact this) GW181.out)) | (show (Addr.add _ _).block ≠ _; rw [add_block]; exact Nat.ne_of_lt (Nat.lt_of_lt_of_le (by have := World.block_lt_of_cell? _ _ hw202_0; first | rwa [add_block] at this | exact this) GW181.out)) | (dsimp only; exact Nat.ne_of_lt (Nat.lt_of_lt_of_le (by have := World.block_lt_of_cell? _ _ hw202_0; first | rwa [add_block] at this | exact this) GW181.out))) _).trans (((cell_far (p := ⟨gb181, _, none⟩) (by first | exact Nat.ne_of_lt (Nat.lt_of_lt_of_le (by have := World.block_lt_of_cell? _ _ hw202_0; first | rwa [add_block] at this | exact this) GW181.out) | (rw [add_block]; exact Nat.ne_of_lt (Nat.lt_of_lt_of_le (by have := World.block_lt_of_cell? _ _ hw202_0; first | rwa [add_block] at this | exact this) GW181.out)) | (show (Addr.add _ _).block ≠ _; rw [add_block]; exact Nat.ne_of_lt (Nat.lt_of_lt_of_le (by have := World.block_lt_of_cell? _ _ hw202_0; first | rwa [add_block] at this | exact this) GW181.out)) | (dsimp only; exact Nat.ne_of_lt (Nat.lt_of_lt_of_le (by have := World.block_lt_of_cell? _ _ hw202_0; first | rwa [add_block] at this | exact this) GW181.out))) _).trans (hHeld.1)))))))))))))), ((cell_far (p := ⟨gb181, _, none⟩) (by first | exact Nat.ne_of_lt (Nat.lt_of_lt_of_le (by have := World.block_lt_of_cell? _ _ hw203_0; first | rwa [add_block] at this | exact this) GW181.out) | (rw [add_block]; exact Nat.ne_of_lt (Nat.lt_of_lt_of_le (by have := World.block_lt_of_cell? _ _ hw203_0; first | rwa [add_block] at this | exact this) GW181.out)) | (show (Addr.add _ _).block ≠ _; rw [add_block]; exact Nat.ne_of_lt (Nat.lt_of_lt_of_le (by have := World.block_lt_of_cell? _ _ hw203_0; first | rwa [add_block] at this | exact this) GW181.out)) | (dsimp only; exact Nat.ne_of_lt (Nat.lt_of_lt_of_le (by have := World.block_lt_of_cell? _ _ hw203_0; first | rwa [add_block] at this | exact this) GW181.out))) _).trans (((cell_far (p := ⟨gb181, _, none⟩) (by first | exact Nat.ne_of_lt (Nat.lt_of_lt_of_le (by have := World.block_lt_of_cell? _ _ hw203_0; first | rwa [add_block] at this | exact this) GW181.out) | (rw [add_block]; exact Nat.ne_of_lt (Nat.lt_of_lt_of_le (by have := World.block_lt_of_cell? _ _ hw203_0; first | rwa [add_block] at this | exact this) GW181.out)) | (show (Addr.add _ _).block ≠ _; rw [add_block]; exact Nat.ne_of_lt (Nat.lt_of_lt_of_le (by have := World.block_lt_of_cell? _ _ hw203_0; first | rwa [add_block] at this | exact this) GW181.out)) | (dsimp only; exact Nat.ne_of_lt (Nat.lt_of_lt_of_le (by have := World.block_lt_of_cell? _ _ hw203_0; first | rwa [add_block] at this | exact this) GW181.out))) _).trans (((cell_far (p := ⟨gb181, _, none⟩) (by first | exact Nat.ne_of_lt (Nat.lt_of_lt_of_le (by have := World.block_lt_of_cell? _ _ hw203_0; first | rwa [add_block] at this | exact this) GW181.out) | (rw [add_block]; exact Nat.ne_of_lt (Nat.lt_of_lt_of_le (by have := World.block_lt_of_cell? _ _ hw203_0; first | rwa [add_block] at this | exact this) GW181.out)) | (show (Addr.add _ _).block ≠ _; rw [add_block]; exact Nat.ne_of_lt (Nat.lt_of_lt_of_le (by have := World.block_lt_of_cell? _ _ hw203_0; first | rwa [add_block] at this | exact this) GW181.out)) | (dsimp only; exact Nat.ne_of_lt (Nat.lt_of_lt_of_le (by have := World.block_lt_of_cell? _ _ hw203_0; first | rwa [add_block] at this | exact this) GW181.out))) _).trans (((cell_far (p := ⟨gb181, _, none⟩) (by first | exact Nat.ne_of_lt (Nat.lt_of_lt_of_le (by have := World.block_lt_of_cell? _ _ hw203_0; first | rwa [add_block] at this | exact this) GW181.out) | (rw [add_block]; exact Nat.ne_of_lt (Nat.lt_of_lt_of_le (by have := World.block_lt_of_cell? _ _ hw203_0; first | rwa [add_block] at this | exact this) GW181.out)) | (show (Addr.add _ _).block ≠ _; rw [add_block]; exact Nat.ne_of_lt (Nat.lt_of_lt_of_le (by have := World.block_lt_of_cell? _ _ hw203_0; first | rwa [add_block] at this | exact this) GW181.out)) | (dsimp only; exact Nat.ne_of_lt (Nat.lt_of_lt_of_le (by have := World.block_lt_of_cell? _ _ hw203_0; first | rwa [add_block] at this | exact this) GW181.out))) _).trans (((cell_far (p := ⟨gb181, _, none⟩) (by first | exact Nat.ne_of_lt (Nat.lt_of_lt_of_le (by have := World.block_lt_of_cell? _ _ hw203_0; first | rwa [add_block] at this | exact this) GW181.out) | (rw [add_block]; exact Nat.ne_of_lt (Nat.lt_of_lt_of_le (by have := World.block_lt_of_cell? _ _ hw203_0; first | rwa [add_block] at this | exact this) GW181.out)) | (show (Addr.add _ _).block ≠ _; rw [add_block]; exact Nat.ne_of_lt (Nat.lt_of_lt_of_le (by have := World.block_lt_of_cell? _ _ hw203_0; first | rwa [add_block] at this | exact this) GW181.out)) | (dsimp only; exact Nat.ne_of_lt (Nat.lt_of_lt_of_le (by have := World.block_lt_of_cell? _ _ hw203_0; first | rwa [add_block] at this | exact this) GW181.out))) _).trans (((cell_far (p := ⟨gb181, _, none⟩) (by first | exact Nat.ne_of_lt (Nat.lt_of_lt_of_le (by have := World.block_lt_of_cell? _ _ hw203_0; first | rwa [add_block] at this | exact this) GW181.out) | (rw [add_block]; exact Nat.ne_of_lt (Nat.lt_of_lt_of_le (by have := World.block_lt_of_cell? _ _ hw203_0; first | rwa [add_block] at this | exact this) GW181.out)) | (show (Addr.add _ _).block ≠ _; rw [add_block]; exact Nat.ne_of_lt (Nat.lt_of_lt_of_le (by have := World.block_lt_of_cell? _ _ hw203_0; first | rwa [add_block] at this | exact this) GW181.out)) | (dsimp only; exact Nat.ne_of_lt (Nat.lt_of_lt_of_le (by have := World.block_lt_of_cell? _ _ hw203_0; first | rwa [add_block] at this | exact this) GW181.out))) _).trans (((cell_far (p := ⟨gb181, _, none⟩) (by first | exact Nat.ne_of_lt (Nat.lt_of_lt_of_le (by have := World.block_lt_of_cell? _ _ hw203_0; first | rwa [add_block] at this | exact this) GW181.out) | (rw [add_block]; exact Nat.ne_of_lt (Nat.lt_of_lt_of_le (by have := World.block_lt_of_cell? _ _ hw203_0; first | rwa [add_block] at this | exact this) GW181.out)) | (show (Addr.add _ _).block ≠ _; rw [add_block]; exact Nat.ne_of_lt (Nat.lt_of_lt_of_le (by have := World.block_lt_of_cell? _ _ hw203_0; first | rwa [add_block] at this | exact this) GW181.out)) | (dsimp only; exact Nat.ne_of_lt (Nat.lt_of_lt_of_le (by have := World.block_lt_of_cell? _ _ hw203_0; first | rwa [add_block] at this | exact this) GW181.out))) _).trans (hHeld.2))))))))))))))⟩ (fun hHeld => ?_)
                            clear hK K
                            refine pure_ (i := 8) (N := some 5) (v := ?_) (a' := ?_) #[true, true, true, true, true, true, true, true, true] rfl rfl (any_of HT_.out (by kernel_rfl)) (fun _ _ _ h => h) (Or.inl ⟨by rfl, ?_⟩) ?_ ?_
                            rotate_left
                            · intro w'
                              go_simp
                              with_reducible rfl
                            rotate_left
                            · simp only [Act.put, List.setIfInBounds_toArray, List.set_cons_zero, List.set_cons_succ, i64_w, i32_w]
                              rfl
                            refine done_ (done_of HT_.out (by kernel_rfl)) ?_
                            try go_wp2
                            refine bodyPost_ret (results_ct rfl _ _ gb181 24 #[.int .u32 (rd l1 0), .int .u32 0, .int .u32 0, .int .u32 0, .int .u32 (rd l1 1), .int .u32 0, .int .u32 0] (0, 0) _ rfl (by (with_reducible repeat (first | refine blk_drewN ?_ _ | refine blk_drew ?_ | refine blk_alloc ?_ _)); refine blk_put (cs := #[.int .u32 (rd l1 0), .int .u32 0, .int .u32 0, .int .u32 0, .int .u32 (rd l1 1), .int .u32 0, .int .u32 0]) ?_ 6 _ rfl; (with_reducible repeat (first | refine blk_drewN ?_ _ | refine blk_drew ?_ | refine blk_alloc ?_ _)); refine blk_put (cs := #[.int .u32 (rd l1 0), .int .u32 0, .int .u32 0, .int .u32 0, .int .u32 (rd l1 1), .int .u32 0, .int .u32 0]) ?_ 5 _ rfl; (with_reducible repeat (first | refine blk_drewN ?_ _ | refine blk_drew ?_ | refine blk_alloc ?_ _)); refine blk_put (cs := #[.int .u32 (rd l1 0), .int .u32 0, .int .u32 0, .int .u32 0, .int .u32 0, .int .u32 0, .int .u32 0]) ?_ 4 _ rfl; (with_reducible repeat (first | refine blk_drewN ?_ _ | refine blk_drew ?_ | refine blk_alloc ?_ _)); refine blk_put (cs := #[.int .u32 (rd l1 0), .int .u32 0, .int .u32 0, .int .u32 0, .int .u32 0, .int .u32 0, .int .u32 0]) ?_ 3 _ rfl; (with_reducible repeat (first | refine blk_drewN ?_ _ | refine blk_drew ?_ | refine blk_alloc ?_ _)); refine blk_put (cs := #[.int .u32 (rd l1 0), .int .u32 0, .int .u32 0, .int .u32 0, .int .u32 0, .int .u32 0, .int .u32 0]) ?_ 2 _ rfl; (with_reducible repeat (first | refine blk_drewN ?_ _ | refine blk_drew ?_ | refine blk_alloc ?_ _)); refine blk_put (cs := #[.int .u32 (rd l1 0), .int .u32 0, .int .u32 0, .int .u32 0, .int .u32 0, .int .u32 0, .int .u32 0]) ?_ 1 _ rfl; (with_reducible repeat (first | refine blk_drewN ?_ _ | refine blk_drew ?_ | refine blk_alloc ?_ _)); refine blk_put (cs := #[.int .u32 0, .int .u32 0, .int .u32 0, .int .u32 0, .int .u32 0, .int .u32 0, .int .u32 0]) ?_ 0 _ rfl; (with_reducible repeat (first | refine blk_drewN ?_ _ | refine blk_drew ?_ | refine blk_alloc ?_ _)); exact BK181.out) Try.underlying24 rfl (by kernel_rfl)) rfl ?_
                            exact ⟨by first | rfl | (simp [errW_none, errW_some] <;> rfl) | (simp [*, errW_none, errW_some] <;> rfl), by repeat (first | (with_reducible first | exact HB.out | apply below_alloc | apply pw_below_drewN | apply below_drew1 | refine below_set ?_ GE181.out) | exact HB.out)⟩
                          · rw [if_neg c74] at H
                            exact absurd H (by simp)
                        · rw [if_neg c73] at H
                          exact absurd H (by simp)
        · rw [if_neg c9] at H
          have c9b0 : ((l1.length : Int) == (t182.length : Int)) = false := beq_eq_false_iff_ne.mpr c9
          have c9b1 : ((l1.length : Int) != (t182.length : Int)) = true := bne_iff_ne.mpr c9
          have c9b2 : (l1.length == t182.length) = false := by first | simpa using c9 | (simp at c9 ⊢; omega)
          simp only [Option.some.injEq, Prod.mk.injEq] at H
          obtain ⟨rfl, rfl, rfl, rfl, rfl, rfl, rfl, rfl⟩ := H
          go_wp2_with (first | ((with_reducible refine gate_callee (f := 18) rfl ?_); refine goesL_ (some 17) rfl rfl Try.func18 (by kernel_rfl) rfl #[.int .u32 a0, .agg #[.int .u32 0, .int .u32 0, .int .u32 0, .int .u32 0, .int .u32 0, .int .u32 0, .int .u32 0]] rfl (by (try simp only [List.map_toArray, List.map_cons, List.map_nil]); first | done | rfl | (simp only [List.length_drop, List.length_take]; rfl)) ?_; (with_reducible refine (chamberlainref11_words.calls kj2 a0 0 0 0 0 0 0 0 t182 _ A8.out).mono ?_); rintro e w83 ⟨v183, rfl, ho0, hb⟩; refine ⟨_, rfl, ?_⟩; have n0_ := Aside0.mk (Kd.R_lower ho0 (below_size (by repeat (first | (with_reducible first | exact HB.out | apply below_alloc | apply pw_below_drewN | apply below_drew1 | refine below_set ?_ GE181.out) | exact HB.out)))); have n1_ := Aside0.mk (blk_below (g := gb181) (o := .cells #[.int .u32 0, .int .u32 0, .int .u32 0, .int .u32 0, .int .u32 0, .int .u32 0, .int .u32 0] 24 (0, 0)) (by (with_reducible repeat (first | refine blk_drewN ?_ _ | refine blk_drew ?_ | refine blk_alloc ?_ _)); exact BK181.out) hb); have n2_ := Aside0.mk (below_step (by repeat (first | (with_reducible first | exact HB.out | apply below_alloc | apply pw_below_drewN | apply below_drew1 | refine below_set ?_ GE181.out) | exact HB.out)) hb); clear BK181; clear HB; have HO184 := n0_; have BK181 := n1_; have HB := n2_; clear n0_ n1_ n2_; (try clear hb); (try clear hb2); (try clear hk); (try clear hi); (try clear ho0); obtain ⟨Ao84, co84, eo84⟩ := Kd.R_slice HO184.out; subst eo84; have hcz85_0 : w83.cell? ⟨gb181, 0, none⟩ = some (.int .u32 0) := (blk_cell BK181.out 0).trans rfl; have hcz85_1 : w83.cell? ⟨gb181, 1, none⟩ = some (.int .u32 0) := (blk_cell BK181.out 1).trans rfl; have hcz85_2 : w83.cell? ⟨gb181, 2, none⟩ = some (.int .u32 0) := (blk_cell BK181.out 2).trans rfl; have hcz85_3 : w83.cell? ⟨gb181, 3, none⟩ = some (.int .u32 0) := (blk_cell BK181.out 3).trans rfl; have hcz85_4 : w83.cell? ⟨gb181, 4, none⟩ = some (.int .u32 0) := (blk_cell BK181.out 4).trans rfl; have hcz85_5 : w83.cell? ⟨gb181, 5, none⟩ = some (.int .u32 0) := (blk_cell BK181.out 5).trans rfl; have hcz85_6 : w83.cell? ⟨gb181, 6, none⟩ = some (.int .u32 0) := (blk_cell BK181.out 6).trans rfl; have hfz85_0 := blk_frozen BK181.out 0; have hfz85_1 := blk_frozen BK181.out 1; have hfz85_2 := blk_frozen BK181.out 2; have hfz85_3 := blk_frozen BK181.out 3; have hfz85_4 := blk_frozen BK181.out 4; have hfz85_5 := blk_frozen BK181.out 5; have hfz85_6 := blk_frozen BK181.out 6))
          refine bodyPost_ret (results_ct rfl _ _ gb181 24 #[.int .u32 0, .int .u32 0, .int .u32 0, .int .u32 0, .int .u32 0, .int .u32 0, .int .u32 0] (0, 0) _ rfl (by (with_reducible repeat (first | refine blk_drewN ?_ _ | refine blk_drew ?_ | refine blk_alloc ?_ _)); refine blk_put (cs := #[.int .u32 0, .int .u32 0, .int .u32 0, .int .u32 0, .int .u32 0, .int .u32 0, .int .u32 0]) ?_ 6 _ rfl; (with_reducible repeat (first | refine blk_drewN ?_ _ | refine blk_drew ?_ | refine blk_alloc ?_ _)); refine blk_put (cs := #[.int .u32 0, .int .u32 0, .int .u32 0, .int .u32 0, .int .u32 0, .int .u32 0, .int .u32 0]) ?_ 5 _ rfl; (with_reducible repeat (first | refine blk_drewN ?_ _ | refine blk_drew ?_ | refine blk_alloc ?_ _)); refine blk_put (cs := #[.int .u32 0, .int .u32 0, .int .u32 0, .int .u32 0, .int .u32 0, .int .u32 0, .int .u32 0]) ?_ 4 _ rfl; (with_reducible repeat (first | refine blk_drewN ?_ _ | refine blk_drew ?_ | refine blk_alloc ?_ _)); refine blk_put (cs := #[.int .u32 0, .int .u32 0, .int .u32 0, .int .u32 0, .int .u32 0, .int .u32 0, .int .u32 0]) ?_ 3 _ rfl; (with_reducible repeat (first | refine blk_drewN ?_ _ | refine blk_drew ?_ | refine blk_alloc ?_ _)); refine blk_put (cs := #[.int .u32 0, .int .u32 0, .int .u32 0, .int .u32 0, .int .u32 0, .int .u32 0, .int .u32 0]) ?_ 2 _ rfl; (with_reducible repeat (first | refine blk_drewN ?_ _ | refine blk_drew ?_ | refine blk_alloc ?_ _)); refine blk_put (cs := #[.int .u32 0, .int .u32 0, .int .u32 0, .int .u32 0, .int .u32 0, .int .u32 0, .int .u32 0]) ?_ 1 _ rfl; (with_reducible repeat (first | refine blk_drewN ?_ _ | refine blk_drew ?_ | refine blk_alloc ?_ _)); refine blk_put (cs := #[.int .u32 0, .int .u32 0, .int .u32 0, .int .u32 0, .int .u32 0, .int .u32 0, .int .u32 0]) ?_ 0 _ rfl; (with_reducible repeat (first | refine blk_drewN ?_ _ | refine blk_drew ?_ | refine blk_alloc ?_ _)); exact BK181.out) Try.underlying24 rfl (by kernel_rfl)) rfl ?_
          exact ⟨by first | rfl | (simp [errW_none, errW_some] <;> rfl) | (simp [*, errW_none, errW_some] <;> rfl), by repeat (first | (with_reducible first | exact HB.out | apply below_alloc | apply pw_below_drewN | apply below_drew1 | refine below_set ?_ GE181.out) | exact HB.out)⟩

end Go.Proofs.Ytpbmmompbknimaa.PPartGets
