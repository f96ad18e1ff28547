-- Written for this claim by wip/tools/myprint.py (print.py's forms; proofs of the faked functions by hand).
import Derived.Test.YtlbfdmoocgjiaaaKNetKeeps
import Derived.Test.YtlbfdmoocgjiaaaPNetKeepsx1
import Derived.Test.YtlbfdmoocgjiaaaPNetKeepsx2
import Derived.Test.YtlbfdmoocgjiaaaPNetKeepsx4
import Derived.Test.YtlbfdmoocgjiaaaPNetKeepsx5
import Derived.Test.YtlbfdmoocgjiaaaPNetKeepsx6
import Derived.Test.YtlbfdmoocgjiaaaPNetKeepsx0
import Derived.Test.YtlbfdmoocgjiaaaPNetKeepsx3
import Derived.Test.YtlbfdmoocgjiaaaPNetKeepsx7
namespace Go.Proofs.Ytlbfdmoocgjiaaa.PNetKeeps
open Go.RowKit Go.Proofs.YtlbfdmoocgjiaaaW.PrintWords Go.Proofs.YtlbfdmoocgjiaaaW.PrintLast Go.Proofs.YtlbfdmoocgjiaaaW.PrintMore
attribute [local go_sem] max2_int min2_int max_two min_two max_three min_three max_four min_four   -- for this text's walks alone
set_option linter.unusedVariables false
set_option linter.unusedSimpArgs false

/-! ### chamberlainref06_Same: function 18 -/
mutual
def chamberlainref06_Same.j0 : Nat → Bool → Int → List (S29) → List (List Int) → Int → List (S29) → List (List Int) → Option (Bool)
  | 0, _, _, _, _, _, _, _ => none
  | k + 1, x27, x336000, x336001, x336002, x337000, x337001, x337002 => if x27 = true then (some false) else (chamberlainref06_Same.l0 k 0 x336000 x336001 x336002 x337000 x337001 x337002)
def chamberlainref06_Same.l0 : Nat → Int → Int → List (S29) → List (List Int) → Int → List (S29) → List (List Int) → Option (Bool)
  | 0, _, _, _, _, _, _, _ => none
  | k + 1, x5, x336000, x336001, x336002, x337000, x337001, x337002 => if x5 < (x336001.length : Int) then (if 0 ≤ x5 then (if x5 < (x337001.length : Int) then ((chamberlainref06_One.f k ((rd_T29 x336001 x5).f0) ((rd_T29 x336001 x5).f1) ((rd_T29 x337001 x5).f0) ((rd_T29 x337001 x5).f1)).bind fun t340 => (if t340 = true then (chamberlainref06_Same.l0 k (wrap64 (x5 + 1)) x336000 x336001 x336002 x337000 x337001 x337002) else (some false))) else (none)) else (none)) else (some true)
end
def chamberlainref06_Same.f (k : Nat) (a0_0 : Int) (l0_1 : List (S29)) (l0_2 : List (List Int)) (a1_0 : Int) (l1_1 : List (S29)) (l1_2 : List (List Int)) : Option (Bool) := if a0_0 = a1_0 then (if (l0_1.length : Int) = (l1_1.length : Int) then ((chamberlainref01_Rows.f k l0_2 l1_2).bind fun t337 => (chamberlainref06_Same.j0 k (!t337) a0_0 l0_1 l0_2 a1_0 l1_1 l1_2)) else (chamberlainref06_Same.j0 k true a0_0 l0_1 l0_2 a1_0 l1_1 l1_2)) else (chamberlainref06_Same.j0 k true a0_0 l0_1 l0_2 a1_0 l1_1 l1_2)
theorem chamberlainref06_Same.mono_l : ∀ k, (∀ y0 y1 y2 y3 y4 y5 y6, LeO (chamberlainref06_Same.j0 k y0 y1 y2 y3 y4 y5 y6) (chamberlainref06_Same.j0 (k + 1) y0 y1 y2 y3 y4 y5 y6)) ∧ (∀ y0 y1 y2 y3 y4 y5 y6, LeO (chamberlainref06_Same.l0 k y0 y1 y2 y3 y4 y5 y6) (chamberlainref06_Same.l0 (k + 1) y0 y1 y2 y3 y4 y5 y6))
  | 0 => ⟨fun _ _ _ _ _ _ _ r h => by simp [chamberlainref06_Same.j0] at h, fun _ _ _ _ _ _ _ r h => by simp [chamberlainref06_Same.l0] at h⟩
  | k + 1 => by
    obtain ⟨ih0, ih1⟩ := chamberlainref06_Same.mono_l k
    refine ⟨?_, ?_⟩
    · intro y0 y1 y2 y3 y4 y5 y6
      unfold chamberlainref06_Same.j0
      repeat' first
      | (with_reducible exact ih0 _ _ _ _ _ _ _)
      | (with_reducible exact ih1 _ _ _ _ _ _ _)
      | (with_reducible exact chamberlainref01_Rows.mono _ _ _)
      | (with_reducible exact chamberlainref06_One.mono _ _ _ _ _)
      | (with_reducible exact LeO.refl _)
      | (with_reducible exact LeO.none _)
      | (with_reducible refine LeO.ite ?_ ?_)
      | (with_reducible refine LeO.bind ?_ (fun _ => ?_))
      | exact ih0 _ _ _ _ _ _ _
      | exact ih1 _ _ _ _ _ _ _
      | exact chamberlainref01_Rows.mono _ _ _
      | exact chamberlainref06_One.mono _ _ _ _ _
      | exact LeO.none _
      | refine LeO.ite ?_ ?_
      | refine LeO.bind ?_ (fun _ => ?_)
    · intro y0 y1 y2 y3 y4 y5 y6
      unfold chamberlainref06_Same.l0
      repeat' first
      | (with_reducible exact ih0 _ _ _ _ _ _ _)
      | (with_reducible exact ih1 _ _ _ _ _ _ _)
      | (with_reducible exact chamberlainref01_Rows.mono _ _ _)
      | (with_reducible exact chamberlainref06_One.mono _ _ _ _ _)
      | (with_reducible exact LeO.refl _)
      | (with_reducible exact LeO.none _)
      | (with_reducible refine LeO.ite ?_ ?_)
      | (with_reducible refine LeO.bind ?_ (fun _ => ?_))
      | exact ih0 _ _ _ _ _ _ _
      | exact ih1 _ _ _ _ _ _ _
      | exact chamberlainref01_Rows.mono _ _ _
      | exact chamberlainref06_One.mono _ _ _ _ _
      | exact LeO.none _
      | refine LeO.ite ?_ ?_
      | refine LeO.bind ?_ (fun _ => ?_)
theorem chamberlainref06_Same.mono : ∀ a0 a1 a2 a3 a4 a5 k, LeO (chamberlainref06_Same.f k a0 a1 a2 a3 a4 a5) (chamberlainref06_Same.f (k + 1) a0 a1 a2 a3 a4 a5) := by
  intro a0 a1 a2 a3 a4 a5 k
  obtain ⟨ih0, ih1⟩ := chamberlainref06_Same.mono_l k
  unfold chamberlainref06_Same.f
  repeat' first
      | (with_reducible exact ih0 _ _ _ _ _ _ _)
      | (with_reducible exact ih1 _ _ _ _ _ _ _)
      | (with_reducible exact chamberlainref01_Rows.mono _ _ _)
      | (with_reducible exact chamberlainref06_One.mono _ _ _ _ _)
      | (with_reducible exact LeO.refl _)
      | (with_reducible exact LeO.none _)
      | (with_reducible refine LeO.ite ?_ ?_)
      | (with_reducible refine LeO.bind ?_ (fun _ => ?_))
      | exact ih0 _ _ _ _ _ _ _
      | exact ih1 _ _ _ _ _ _ _
      | exact chamberlainref01_Rows.mono _ _ _
      | exact chamberlainref06_One.mono _ _ _ _ _
      | exact LeO.none _
      | refine LeO.ite ?_ ?_
      | refine LeO.bind ?_ (fun _ => ?_)
def chamberlainref06_Same.T6 : Bool × List (List Nat × List Nat) := (true, [([], []), ([0], [0]), ([], []), ([1, 2], [1, 2]), ([3], [3]), ([], []), ([5], [5]), ([], []), ([6, 7], [6, 7]), ([8], [8]), ([4, 9], [4, 9]), ([10], [10])])
def chamberlainref06_Same.B6 : List Nat := [0, 1, 0, 7, 15, 0, 32, 0, 224, 480, 1023, 2047]
theorem chamberlainref06_Same.tab6 : rtab .any (opsOf Try.f18 6) = chamberlainref06_Same.T6 := by kernel_rfl
theorem chamberlainref06_Same.bits6 : waitsOk chamberlainref06_Same.T6.2 chamberlainref06_Same.B6 = true := by kernel_rfl
set_option maxHeartbeats 8000000 in
set_option maxRecDepth 100000 in
theorem chamberlainref06_Same.calls (k : Nat) (a0_0 : Int) (A0_1 : Option Addr) (c0_1 : Nat) (l0_1 : List (S29)) (A0_2 : Option Addr) (c0_2 : Nat) (l0_2 : List (List Int)) (a1_0 : Int) (A1_1 : Option Addr) (c1_1 : Nat) (l1_1 : List (S29)) (A1_2 : Option Addr) (c1_2 : Nat) (l1_2 : List (List Int)) (r : Bool) (w : World) (hr0_1 : Kd.C k29 w A0_1 l0_1.length l0_1) (hc0_1 : l0_1.length ≤ c0_1) (hr0_2 : Kd.C (Kd.slice 26 (Kd.int .u32)) w A0_2 l0_2.length l0_2) (hc0_2 : l0_2.length ≤ c0_2) (hr1_1 : Kd.C k29 w A1_1 l1_1.length l1_1) (hc1_1 : l1_1.length ≤ c1_1) (hr1_2 : Kd.C (Kd.slice 26 (Kd.int .u32)) w A1_2 l1_2.length l1_2) (hc1_2 : l1_2.length ≤ c1_2) (h : chamberlainref06_Same.f k a0_0 l0_1 l0_2 a1_0 l1_1 l1_2 = some r) :
    Calls Try.prog 18 #[.agg #[.int .i64 a0_0, .slice A0_1 l0_1.length c0_1, .slice A0_2 l0_2.length c0_2], .agg #[.int .i64 a1_0, .slice A1_1 l1_1.length c1_1, .slice A1_2 l1_2.length c1_2]] w fun e w' => e = .returned (.bool r) ∧ Below w.heap.size w w' := by
  have hu25 := Try.underlying25
  have hu29 := Try.underlying29
  have HR0_1 := Aside0.mk hr0_1
  have HC0_1 := Aside0.mk hc0_1
  clear hr0_1 hc0_1
  have HR0_2 := Aside0.mk hr0_2
  have HC0_2 := Aside0.mk hc0_2
  clear hr0_2 hc0_2
  have HR1_1 := Aside0.mk hr1_1
  have HC1_1 := Aside0.mk hc1_1
  clear hr1_1 hc1_1
  have HR1_2 := Aside0.mk hr1_2
  have HC1_2 := Aside0.mk hc1_2
  clear hr1_2 hc1_2
  have HB := Aside0.mk (Below.refl w.heap.size w)
  have H : (if a0_0 = a1_0 then (if (l0_1.length : Int) = (l1_1.length : Int) then ((chamberlainref01_Rows.f k l0_2 l1_2).bind fun t337 => (chamberlainref06_Same.j0 k (!t337) a0_0 l0_1 l0_2 a1_0 l1_1 l1_2)) else (chamberlainref06_Same.j0 k true a0_0 l0_1 l0_2 a1_0 l1_1 l1_2)) else (chamberlainref06_Same.j0 k true a0_0 l0_1 l0_2 a1_0 l1_1 l1_2)) = some r := h
  clear h
  have HC3 := Aside0.mk H
  clear H
  go_enter Try.func18, Try.ntmps18
  go_upto_region 1 with (first | ((with_reducible refine gate_dst (N := 2) rfl ?_); (try (refine gate_guard (by rfl) ?_; dsimp only)); refine box_event ?hg (N := 2) ?hd (cs := #[.int .i64 a0_0, .slice A0_1 l0_1.length c0_1, .slice A0_2 l0_2.length c0_2]) (t := 25) ?hr ?_; (case hd => rfl); (case hg => rfl); (case hr => first | (go_simp; done) | (go_simp; rfl)); intro gb335 hg w4 hbox hb; have n0_ := Aside0.mk (bs_ hb); have n1_ := Aside0.mk (hbox); have n3_ := Aside0.mk ((ge_ hg : w.heap.size ≤ gb335)); clear HB; have HB := n0_; have BK335 := n1_; have GE335 := n3_; clear n0_ n1_ n3_; clear hb hbox hg) | ((with_reducible refine gate_dst (N := 3) rfl ?_); (try (refine gate_guard (by rfl) ?_; dsimp only)); refine box_event ?hg (N := 3) ?hd (cs := #[.int .i64 a1_0, .slice A1_1 l1_1.length c1_1, .slice A1_2 l1_2.length c1_2]) (t := 25) ?hr ?_; (case hd => rfl); (case hg => rfl); (case hr => first | (go_simp; done) | (go_simp; rfl)); intro gb336 hg w5 hbox hb; have n0_ := Aside0.mk (bb_ BK335.out hb); have n1_ := Aside0.mk (bs_ hb); have n2_ := Aside0.mk (hbox); have n4_ := Aside0.mk ((ge_ hg : w.heap.size ≤ gb336)); have n5_ := Aside0.mk ((by rw [hg]; exact Nat.ne_of_lt (blk_lt (g := gb335) (o := .cells #[.int .i64 a0_0, .slice A0_1 l0_1.length c0_1, .slice A0_2 l0_2.length c0_2] 25 (0, 0)) (by (with_reducible repeat (first | refine blk_drewN ?_ _ | refine blk_drew ?_ | refine blk_alloc ?_ _)); exact BK335.out)) : gb335 ≠ gb336)); have n6_ := Aside0.mk ((by rw [hg]; exact Nat.ne_of_gt (blk_lt (g := gb335) (o := .cells #[.int .i64 a0_0, .slice A0_1 l0_1.length c0_1, .slice A0_2 l0_2.length c0_2] 25 (0, 0)) (by (with_reducible repeat (first | refine blk_drewN ?_ _ | refine blk_drew ?_ | refine blk_alloc ?_ _)); exact BK335.out)) : gb336 ≠ gb335)); clear BK335 HB; have BK335 := n0_; have HB := n1_; have BK336 := n2_; have GE336 := n4_; have NB335_336 := n5_; have NB336_335 := n6_; clear n0_ n1_ n2_ n4_ n5_ n6_; clear hb hbox hg))
  (try simp only [Act.put, List.setIfInBounds_toArray, List.set_cons_zero, List.set_cons_succ])
  go_cut [27] (fun v27 wc => ∃ (kq : Nat) (x27_2 : Bool), v27 = .bool x27_2 ∧ Aside0 (chamberlainref06_Same.j0 kq x27_2 a0_0 l0_1 l0_2 a1_0 l1_1 l1_2 = some r) ∧ Aside0 (kq ≤ k) ∧ Aside0 (wc.heap[gb335]? = some (.cells #[.int .i64 a0_0, (.slice A0_1 l0_1.length c0_1), (.slice A0_2 l0_2.length c0_2)] 25 (0, 0))) ∧ Aside0 (wc.heap[gb336]? = some (.cells #[.int .i64 a1_0, (.slice A1_1 l1_1.length c1_1), (.slice A1_2 l1_2.length c1_2)] 25 (0, 0))) ∧ Aside0 (Below w.heap.size w wc))
  case first =>
    have H := HC3.out
    clear HC3
    by_cases c6 : a0_0 = a1_0
    · rw [if_pos c6] at H
      have c6b0 : (a0_0 == a1_0) = true := beq_iff_eq.mpr c6
      have c6b1 : (a0_0 != a1_0) = false := bne_eq_false_iff_eq.mpr c6
      clear c6
      (first | rw [c6b0] | (simp only [i64_w, i32_w]; rw [c6b0]) | skip)
      by_cases c7 : (l0_1.length : Int) = (l1_1.length : Int)
      · rw [if_pos c7] at H
        have c7b0 : ((l0_1.length : Int) == (l1_1.length : Int)) = true := beq_iff_eq.mpr c7
        have c7b1 : ((l0_1.length : Int) != (l1_1.length : Int)) = false := bne_eq_false_iff_eq.mpr c7
        have c7b2 : (l0_1.length == l1_1.length) = true := by first | simpa using c7 | (simp at c7 ⊢; omega)
        clear c7
        replace H := Option.bind_eq_some_iff.mp H
        obtain ⟨t337, A80, H⟩ := H
        replace H : (chamberlainref06_Same.j0 k (!t337) a0_0 l0_1 l0_2 a1_0 l1_1 l1_2) = some r := H
        have A8 := Aside0.mk A80
        clear A80
        have H' := Aside0.mk H
        clear H
        have hnb9 := NB335_336.out
        have hnc9 := NB336_335.out
        have ⟨hcz10_0, hcz10_1, hcz10_2⟩ := cz3_ BK335.out
        have ⟨hfz10_0, hfz10_1, hfz10_2⟩ := fz3_ BK335.out
        have ⟨hcz11_0, hcz11_1, hcz11_2⟩ := cz3_ BK336.out
        have ⟨hfz11_0, hfz11_1, hfz11_2⟩ := fz3_ BK336.out
        go_wp2_with (first | (go_at_call 27; (with_reducible refine (chamberlainref01_Rows.calls k _ _ l0_2 _ _ l1_2 t337 _ ?side1 ?side2 ?side3 ?side4 A8.out).mono ?_); (case side1 => repeat (first | exact (Kd.C_below HR0_2.out HB.out) | (with_reducible refine Kd.C_alloc ?_ _) | (with_reducible refine Kd.C_drewN ?_ _) | (with_reducible refine Kd.C_drew ?_))); (case side2 => exact HC0_2.out); (case side3 => repeat (first | exact (Kd.C_below HR1_2.out HB.out) | (with_reducible refine Kd.C_alloc ?_ _) | (with_reducible refine Kd.C_drewN ?_ _) | (with_reducible refine Kd.C_drew ?_))); (case side4 => exact HC1_2.out); rintro e w' ⟨rfl, ⟨nd, rfl⟩⟩))
        go_meet
        case rel => exact ⟨_, (!t337), (by first | rfl | (simp; done) | (simp [*]; done)), H', ⟨by first | omega | exact Nat.le_refl _⟩, ⟨by (with_reducible repeat (first | refine blk_drewN ?_ _ | refine blk_drew ?_ | refine blk_alloc ?_ _)); exact BK335.out⟩, ⟨by (with_reducible repeat (first | refine blk_drewN ?_ _ | refine blk_drew ?_ | refine blk_alloc ?_ _)); exact BK336.out⟩, ⟨by repeat (first | (with_reducible first | exact HB.out | apply below_alloc | apply pw_below_drewN | apply below_drew1 | refine below_set ?_ GE335.out | refine below_set ?_ GE336.out) | exact HB.out)⟩⟩
      · rw [if_neg c7] at H
        have c7b0 : ((l0_1.length : Int) == (l1_1.length : Int)) = false := beq_eq_false_iff_ne.mpr c7
        have c7b1 : ((l0_1.length : Int) != (l1_1.length : Int)) = true := bne_iff_ne.mpr c7
        have c7b2 : (l0_1.length == l1_1.length) = false := by first | simpa using c7 | (simp at c7 ⊢; omega)
        have H' := Aside0.mk H
        clear H
        have hnb12 := NB335_336.out
        have hnc12 := NB336_335.out
        have ⟨hcz13_0, hcz13_1, hcz13_2⟩ := cz3_ BK335.out
        have ⟨hfz13_0, hfz13_1, hfz13_2⟩ := fz3_ BK335.out
        have ⟨hcz14_0, hcz14_1, hcz14_2⟩ := cz3_ BK336.out
        have ⟨hfz14_0, hfz14_1, hfz14_2⟩ := fz3_ BK336.out
        go_wp2
        go_meet
        case rel => exact ⟨_, (true), (by first | rfl | (simp; done) | (simp [*]; done)), H', ⟨by first | omega | exact Nat.le_refl _⟩, ⟨by (with_reducible repeat (first | refine blk_drewN ?_ _ | refine blk_drew ?_ | refine blk_alloc ?_ _)); exact BK335.out⟩, ⟨by (with_reducible repeat (first | refine blk_drewN ?_ _ | refine blk_drew ?_ | refine blk_alloc ?_ _)); exact BK336.out⟩, ⟨by repeat (first | (with_reducible first | exact HB.out | apply below_alloc | apply pw_below_drewN | apply below_drew1 | refine below_set ?_ GE335.out | refine below_set ?_ GE336.out) | exact HB.out)⟩⟩
    · rw [if_neg c6] at H
      have c6b0 : (a0_0 == a1_0) = false := beq_eq_false_iff_ne.mpr c6
      have c6b1 : (a0_0 != a1_0) = true := bne_iff_ne.mpr c6
      (first | rw [c6b0] | (simp only [i64_w, i32_w]; rw [c6b0]) | skip)
      have H' := Aside0.mk H
      clear H
      have hnb15 := NB335_336.out
      have hnc15 := NB336_335.out
      have ⟨hcz16_0, hcz16_1, hcz16_2⟩ := cz3_ BK335.out
      have ⟨hfz16_0, hfz16_1, hfz16_2⟩ := fz3_ BK335.out
      have ⟨hcz17_0, hcz17_1, hcz17_2⟩ := cz3_ BK336.out
      have ⟨hfz17_0, hfz17_1, hfz17_2⟩ := fz3_ BK336.out
      go_wp2
      go_meet
      case rel => exact ⟨_, (true), (by first | rfl | (simp; done) | (simp [*]; done)), H', ⟨by first | omega | exact Nat.le_refl _⟩, ⟨by (with_reducible repeat (first | refine blk_drewN ?_ _ | refine blk_drew ?_ | refine blk_alloc ?_ _)); exact BK335.out⟩, ⟨by (with_reducible repeat (first | refine blk_drewN ?_ _ | refine blk_drew ?_ | refine blk_alloc ?_ _)); exact BK336.out⟩, ⟨by repeat (first | (with_reducible first | exact HB.out | apply below_alloc | apply pw_below_drewN | apply below_drew1 | refine below_set ?_ GE335.out | refine below_set ?_ GE336.out) | exact HB.out)⟩⟩
  case rest =>
    clear HC3
    try clear c1
    try clear p2
    try clear c6
    try clear c6b0
    try clear c6b1
    try clear c7
    try clear c7b0
    try clear c7b1
    try clear c7b2
    try clear c9
    try clear c12
    try clear c15
    try clear hcz10_0
    try clear hcz10_1
    try clear hcz10_2
    try clear hcz11_0
    try clear hcz11_1
    try clear hcz11_2
    try clear hcz13_0
    try clear hcz13_1
    try clear hcz13_2
    try clear hcz14_0
    try clear hcz14_1
    try clear hcz14_2
    try clear hcz16_0
    try clear hcz16_1
    try clear hcz16_2
    try clear hcz17_0
    try clear hcz17_1
    try clear hcz17_2
    try clear hfz10_0
    try clear hfz10_1
    try clear hfz10_2
    try clear hfz11_0
    try clear hfz11_1
    try clear hfz11_2
    try clear hfz13_0
    try clear hfz13_1
    try clear hfz13_2
    try clear hfz14_0
    try clear hfz14_1
    try clear hfz14_2
    try clear hfz16_0
    try clear hfz16_1
    try clear hfz16_2
    try clear hfz17_0
    try clear hfz17_1
    try clear hfz17_2
    obtain ⟨kq, x27_2, rfl, HA, HJ2, BK335, BK336, HB⟩ := hcut
    cases kq with
    | zero => exact absurd HA.out (by simp [chamberlainref06_Same.j0])
    | succ kj2 =>
      have H := HA.out
      clear HA
      simp only [chamberlainref06_Same.j0] at H
      by_cases c18 : x27_2 = true
      · subst c18
        have H1 : (some false) = some r := by rw [if_pos rfl] at H; exact H
        clear H
        have H := H1
        clear H1
        obtain rfl := Option.some.inj H
        go_wp2
        go_ret
        exact ⟨by first | rfl | (simp [errW_none, errW_some] <;> rfl) | (simp [*, errW_none, errW_some] <;> rfl), by repeat (first | (with_reducible first | exact HB.out | apply below_alloc | apply pw_below_drewN | apply below_drew1 | refine below_set ?_ GE335.out | refine below_set ?_ GE336.out) | exact HB.out)⟩
      · replace c18 := Bool.eq_false_iff.mpr c18
        subst c18
        have H1 : (chamberlainref06_Same.l0 kj2 0 a0_0 l0_1 l0_2 a1_0 l1_1 l1_2) = some r := by rw [if_neg (show ¬ (false = true) by decide)] at H; exact H
        clear H
        have H := H1
        clear H1
        have H' := Aside0.mk H
        clear H
        go_wp2
        go_loopg [5] kj2 (fun kq v5 w' => ∃ (x5_2 : Int), v5 = .int .i64 x5_2 ∧ Aside0 (chamberlainref06_Same.l0 kq x5_2 a0_0 l0_1 l0_2 a1_0 l1_1 l1_2 = some r) ∧ Aside0 (kq ≤ kj2) ∧ Aside0 (w'.heap[gb335]? = some (.cells #[.int .i64 a0_0, (.slice A0_1 l0_1.length c0_1), (.slice A0_2 l0_2.length c0_2)] 25 (0, 0))) ∧ Aside0 (w'.heap[gb336]? = some (.cells #[.int .i64 a1_0, (.slice A1_1 l1_1.length c1_1), (.slice A1_2 l1_2.length c1_2)] 25 (0, 0))) ∧ Aside0 (Below w.heap.size w w'))
        case atStart => exact ⟨(0), (by first | rfl | (simp; done) | (simp [*]; done)), H', ⟨Nat.le_refl _⟩, ⟨by (with_reducible repeat (first | refine blk_drewN ?_ _ | refine blk_drew ?_ | refine blk_alloc ?_ _)); exact BK335.out⟩, ⟨by (with_reducible repeat (first | refine blk_drewN ?_ _ | refine blk_drew ?_ | refine blk_alloc ?_ _)); exact BK336.out⟩, ⟨by repeat (first | (with_reducible first | exact HB.out | apply below_alloc | apply pw_below_drewN | apply below_drew1 | refine below_set ?_ GE335.out | refine below_set ?_ GE336.out) | exact HB.out)⟩⟩
        case round =>
          clear H'
          try clear c1
          try clear p2
          try clear c6
          try clear c6b0
          try clear c6b1
          try clear c7
          try clear c7b0
          try clear c7b1
          try clear c7b2
          try clear c9
          try clear c12
          try clear c15
          try clear c18
          try clear hcz10_0
          try clear hcz10_1
          try clear hcz10_2
          try clear hcz11_0
          try clear hcz11_1
          try clear hcz11_2
          try clear hcz13_0
          try clear hcz13_1
          try clear hcz13_2
          try clear hcz14_0
          try clear hcz14_1
          try clear hcz14_2
          try clear hcz16_0
          try clear hcz16_1
          try clear hcz16_2
          try clear hcz17_0
          try clear hcz17_1
          try clear hcz17_2
          try clear hfz10_0
          try clear hfz10_1
          try clear hfz10_2
          try clear hfz11_0
          try clear hfz11_1
          try clear hfz11_2
          try clear hfz13_0
          try clear hfz13_1
          try clear hfz13_2
          try clear hfz14_0
          try clear hfz14_1
          try clear hfz14_2
          try clear hfz16_0
          try clear hfz16_1
          try clear hfz16_2
          try clear hfz17_0
          try clear hfz17_1
          try clear hfz17_2
          try clear p2
          obtain ⟨x5_2, rfl, HA, HK2, BK335, BK336, HB⟩ := hrel
          cases gk with
          | zero => exact absurd HA.out (by simp [chamberlainref06_Same.l0])
          | succ k2 =>
            have H := HA.out
            clear HA
            simp only [chamberlainref06_Same.l0] at H
            by_cases c19 : x5_2 < (l0_1.length : Int)
            · rw [if_pos c19] at H
              have c19b0 : decide (x5_2 < (l0_1.length : Int)) = true := decide_eq_true c19
              clear c19
              by_cases c20 : 0 ≤ x5_2
              · rw [if_pos c20] at H
                have c20b0 : decide (0 ≤ x5_2) = true := decide_eq_true c20
                clear c20
                by_cases c21 : x5_2 < (l1_1.length : Int)
                · rw [if_pos c21] at H
                  have c21b0 : decide (x5_2 < (l1_1.length : Int)) = true := decide_eq_true c21
                  clear c21
                  replace H := Option.bind_eq_some_iff.mp H
                  obtain ⟨t340, A220, H⟩ := H
                  replace H : (if t340 = true then (chamberlainref06_Same.l0 k2 (wrap64 (x5_2 + 1)) a0_0 l0_1 l0_2 a1_0 l1_1 l1_2) else (some false)) = some r := H
                  have A22 := Aside0.mk A220
                  clear A220
                  by_cases c23 : t340 = true
                  · subst c23
                    have H1 : (chamberlainref06_Same.l0 k2 (wrap64 (x5_2 + 1)) a0_0 l0_1 l0_2 a1_0 l1_1 l1_2) = some r := by rw [if_pos rfl] at H; exact H
                    clear H
                    have H := H1
                    clear H1
                    have H' := Aside0.mk H
                    clear H
                    have hnb24 := NB335_336.out
                    have hnc24 := NB336_335.out
                    have ⟨hcz25_0, hcz25_1, hcz25_2⟩ := cz3_ BK335.out
                    have ⟨hfz25_0, hfz25_1, hfz25_2⟩ := fz3_ BK335.out
                    try go_wp2
                    have n0_ := Aside0.mk (blk_drew BK335.out)
                    have n1_ := Aside0.mk (blk_drew BK336.out)
                    have n2_ := Aside0.mk (below_drew1 HB.out)
                    clear BK335 BK336 HB
                    have BK335 := n0_
                    have BK336 := n1_
                    have HB := n2_
                    clear n0_ n1_ n2_
                    have p338 : 0 ≤ (x5_2 : Int) := of_decide_eq_true (by first | (with_reducible assumption) | assumption)
                    have q338 : x5_2 < (l0_1.length : Int) := of_decide_eq_true (by first | (with_reducible assumption) | assumption)
                    obtain ⟨ad338, A338_1, c338_1, e338, hx338_0, hx338_1, hl338_1, hi338_1⟩ := at_T29 HR0_1.out x5_2 p338 q338
                    have hw338_1 := hx338_1
                    have hw338_0 := hx338_0
                    cases e338
                    replace hx338_0 := (HB.out.cell (World.block_lt_of_cell? w _ hx338_0)).trans hx338_0
                    replace hx338_1 := (HB.out.cell (World.block_lt_of_cell? w _ hx338_1)).trans hx338_1
                    have HR338_1 := Aside0.mk hi338_1
                    have HC338_1 := Aside0.mk hl338_1
                    clear hi338_1 hl338_1
                    replace p338 := eq_true p338
                    replace q338 := eq_true q338
                    have p339 : 0 ≤ (x5_2 : Int) := of_decide_eq_true (by first | (with_reducible assumption) | assumption)
                    have q339 : x5_2 < (l1_1.length : Int) := of_decide_eq_true (by first | (with_reducible assumption) | assumption)
                    obtain ⟨ad339, A339_1, c339_1, e339, hx339_0, hx339_1, hl339_1, hi339_1⟩ := at_T29 HR1_1.out x5_2 p339 q339
                    have hw339_1 := hx339_1
                    have hw339_0 := hx339_0
                    cases e339
                    replace hx339_0 := (HB.out.cell (World.block_lt_of_cell? w _ hx339_0)).trans hx339_0
                    replace hx339_1 := (HB.out.cell (World.block_lt_of_cell? w _ hx339_1)).trans hx339_1
                    have HR339_1 := Aside0.mk hi339_1
                    have HC339_1 := Aside0.mk hl339_1
                    clear hi339_1 hl339_1
                    replace p339 := eq_true p339
                    replace q339 := eq_true q339
                    refine start_ (n := 12) (S := fun w' => w'.cell? ⟨gb335, 0, none⟩ = some (.int .i64 a0_0) ∧ w'.cell? ⟨gb335, 1, none⟩ = some (.slice (some ad338) l0_1.length c0_1) ∧ w'.cell? ⟨gb335, 2, none⟩ = some (.slice A0_2 l0_2.length c0_2) ∧ w'.cell? ⟨gb336, 0, none⟩ = some (.int .i64 a1_0) ∧ w'.cell? ⟨gb336, 1, none⟩ = some (.slice (some ad339) l1_1.length c1_1) ∧ w'.cell? ⟨gb336, 2, none⟩ = some (.slice A1_2 l1_2.length c1_2) ∧ w'.cell? (ad338.add ((x5_2).toNat * 2)) = some (.int .u32 ((rd_T29 l0_1 x5_2).f0)) ∧ w'.cell? ⟨(ad338.add ((x5_2).toNat * 2)).block, (ad338.add ((x5_2).toNat * 2)).off + 1, none⟩ = some (.slice A338_1 ((rd_T29 l0_1 x5_2).f1).length c338_1) ∧ w'.cell? (ad339.add ((x5_2).toNat * 2)) = some (.int .u32 ((rd_T29 l1_1 x5_2).f0)) ∧ w'.cell? ⟨(ad339.add ((x5_2).toNat * 2)).block, (ad339.add ((x5_2).toNat * 2)).off + 1, none⟩ = some (.slice A339_1 ((rd_T29 l1_1 x5_2).f1).length c339_1)) (ds := []) #[false, false, false, false, false, false, false, false, false, false, false, false] (by kernel_rfl) rfl rfl ⟨(blk_cell BK335.out 0).trans rfl, (blk_cell BK335.out 1).trans rfl, (blk_cell BK335.out 2).trans rfl, (blk_cell BK336.out 0).trans rfl, (blk_cell BK336.out 1).trans rfl, (blk_cell BK336.out 2).trans rfl, ((HB.out.cell (World.block_lt_of_cell? w _ hw338_0)).trans hw338_0), ((HB.out.cell (World.block_lt_of_cell? w _ hw338_1)).trans hw338_1), ((HB.out.cell (World.block_lt_of_cell? w _ hw339_0)).trans hw339_0), ((HB.out.cell (World.block_lt_of_cell? w _ hw339_1)).trans hw339_1)⟩ (fun hHeld => ?_); refine with_tabW chamberlainref06_Same.tab6 chamberlainref06_Same.bits6 (fun HT_ HW_ => ?_)
                    generalize wr.drew = w26 at BK335 BK336 HB HR338_1 HR339_1 hx338_0 hx338_1 hx339_0 hx339_1 hHeld ⊢
                    refine pure_ (i := 0) (N := some 35) (v := ?_) (a' := ?_) #[true, false, false, false, false, false, false, false, false, false, false, false] rfl rfl (any_of HT_.out (by kernel_rfl)) (fun _ _ _ h => h) (Or.inl ⟨by rfl, ?_⟩) ?_ ?_
                    rotate_left
                    · intro w'
                      go_simp
                      with_reducible rfl
                    rotate_left
                    · simp only [Act.put, List.setIfInBounds_toArray, List.set_cons_zero, List.set_cons_succ, i64_w, i32_w]
                      rfl
                    refine pure_ (i := 2) (N := some 37) (v := ?_) (a' := ?_) #[true, false, true, false, false, false, false, false, false, false, false, false] rfl rfl (any_of HT_.out (by kernel_rfl)) (fun _ _ _ h => h) (Or.inl ⟨by rfl, ?_⟩) ?_ ?_
                    rotate_left
                    · intro w'
                      go_simp
                      with_reducible rfl
                    rotate_left
                    · simp only [Act.put, List.setIfInBounds_toArray, List.set_cons_zero, List.set_cons_succ, i64_w, i32_w]
                      rfl
                    refine pure_ (i := 5) (N := some 40) (v := ?_) (a' := ?_) #[true, false, true, false, false, true, false, false, false, false, false, false] rfl rfl (any_of HT_.out (by kernel_rfl)) (fun _ _ _ h => h) (Or.inl ⟨by rfl, ?_⟩) ?_ ?_
                    rotate_left
                    · intro w'
                      go_simp
                      with_reducible rfl
                    rotate_left
                    · simp only [Act.put, List.setIfInBounds_toArray, List.set_cons_zero, List.set_cons_succ, i64_w, i32_w]
                      rfl
                    refine pure_ (i := 7) (N := some 42) (v := ?_) (a' := ?_) #[true, false, true, false, false, true, false, true, false, false, false, false] rfl rfl (any_of HT_.out (by kernel_rfl)) (fun _ _ _ h => h) (Or.inl ⟨by rfl, ?_⟩) ?_ ?_
                    rotate_left
                    · intro w'
                      go_simp
                      with_reducible rfl
                    rotate_left
                    · simp only [Act.put, List.setIfInBounds_toArray, List.set_cons_zero, List.set_cons_succ, i64_w, i32_w]
                      rfl
                    refine take_ (i := 1) (N := some 36) (v := ?_) (a' := ?_) #[true, true, true, false, false, true, false, true, false, false, false, false] rfl rfl (take_ofW HT_.out HW_.out (by kernel_rfl)) (fun _ _ _ h => h) (Or.inl ⟨by rfl, ?_⟩) hHeld ?_ ?_
                    rotate_left
                    · rintro w' ⟨s0, s1, s2, s3, s4, s5, s6, s7, s8, s9⟩
                      go_simp
                      with_reducible rfl
                    rotate_left
                    · simp only [Act.put, List.setIfInBounds_toArray, List.set_cons_zero, List.set_cons_succ, i64_w, i32_w]
                      rfl
                    refine pure_ (i := 3) (N := some 38) (v := ?_) (a' := ?_) #[true, true, true, true, false, true, false, true, false, false, false, false] rfl rfl (any_of HT_.out (by kernel_rfl)) (fun _ _ _ h => h) (Or.inl ⟨by rfl, ?_⟩) ?_ ?_
                    rotate_left
                    · intro w'
                      go_simp
                      with_reducible rfl
                    rotate_left
                    · simp only [Act.put, List.setIfInBounds_toArray, List.set_cons_zero, List.set_cons_succ, i64_w, i32_w]
                      rfl
                    refine take_ (i := 4) (N := some 39) (v := ?_) (a' := ?_) #[true, true, true, true, true, true, false, true, false, false, false, false] rfl rfl (take_ofW HT_.out HW_.out (by kernel_rfl)) (fun _ _ _ h => h) (Or.inl ⟨by rfl, ?_⟩) hHeld ?_ ?_
                    rotate_left
                    · rintro w' ⟨s0, s1, s2, s3, s4, s5, s6, s7, s8, s9⟩
                      go_simp
                      with_reducible rfl
                    rotate_left
                    · simp only [Act.put, List.setIfInBounds_toArray, List.set_cons_zero, List.set_cons_succ, i64_w, i32_w]
                      rfl
                    refine take_ (i := 6) (N := some 41) (v := ?_) (a' := ?_) #[true, true, true, true, true, true, true, true, false, false, false, false] rfl rfl (take_ofW HT_.out HW_.out (by kernel_rfl)) (fun _ _ _ h => h) (Or.inl ⟨by rfl, ?_⟩) hHeld ?_ ?_
                    rotate_left
                    · rintro w' ⟨s0, s1, s2, s3, s4, s5, s6, s7, s8, s9⟩
                      go_simp
                      with_reducible rfl
                    rotate_left
                    · simp only [Act.put, List.setIfInBounds_toArray, List.set_cons_zero, List.set_cons_succ, i64_w, i32_w]
                      rfl
                    refine pure_ (i := 8) (N := some 43) (v := ?_) (a' := ?_) #[true, true, true, true, true, true, true, true, true, false, false, false] rfl rfl (any_of HT_.out (by kernel_rfl)) (fun _ _ _ h => h) (Or.inl ⟨by rfl, ?_⟩) ?_ ?_
                    rotate_left
                    · intro w'
                      go_simp
                      with_reducible rfl
                    rotate_left
                    · simp only [Act.put, List.setIfInBounds_toArray, List.set_cons_zero, List.set_cons_succ, i64_w, i32_w]
                      rfl
                    refine take_ (i := 9) (N := some 44) (v := ?_) (a' := ?_) #[true, true, true, true, true, true, true, true, true, true, false, false] rfl rfl (take_ofW HT_.out HW_.out (by kernel_rfl)) (fun _ _ _ h => h) (Or.inl ⟨by rfl, ?_⟩) hHeld ?_ ?_
                    rotate_left
                    · rintro w' ⟨s0, s1, s2, s3, s4, s5, s6, s7, s8, s9⟩
                      go_simp
                      with_reducible rfl
                    rotate_left
                    · simp only [Act.put, List.setIfInBounds_toArray, List.set_cons_zero, List.set_cons_succ, i64_w, i32_w]
                      rfl
                    refine one_ (i := 10) (N := some 45) #[true, true, true, true, true, true, true, true, true, true, true, false] rfl rfl (one_of HT_.out (by kernel_rfl)) (by decide) (fun K hK => ?_)
                    refine goes_ Try.func19 (by kernel_rfl) rfl #[.agg #[.int .u32 ((rd_T29 l0_1 x5_2).f0), .slice A338_1 ((rd_T29 l0_1 x5_2).f1).length c338_1], .agg #[.int .u32 ((rd_T29 l1_1 x5_2).f0), .slice A339_1 ((rd_T29 l1_1 x5_2).f1).length c339_1]] (by rfl) rfl rfl (by (try simp only [List.map_toArray, List.map_cons, List.map_nil]); first | done | rfl | (simp only [List.length_drop, List.length_take]; rfl)) ?_
                    with_reducible refine (chamberlainref06_One.calls k2 ((rd_T29 l0_1 x5_2).f0) _ _ ((rd_T29 l0_1 x5_2).f1) ((rd_T29 l1_1 x5_2).f0) _ _ ((rd_T29 l1_1 x5_2).f1) true _ ?side1 ?side2 ?side3 ?side4 A22.out).mono ?_
                    (case side1 => repeat (first | exact (Kd.C_below HR338_1.out HB.out) | (with_reducible refine Kd.C_alloc ?_ _) | (with_reducible refine Kd.C_drewN ?_ _) | (with_reducible refine Kd.C_drew ?_)))
                    (case side2 => exact HC338_1.out)
                    (case side3 => repeat (first | exact (Kd.C_below HR339_1.out HB.out) | (with_reducible refine Kd.C_alloc ?_ _) | (with_reducible refine Kd.C_drewN ?_ _) | (with_reducible refine Kd.C_drew ?_)))
                    (case side4 => exact HC339_1.out)
                    rintro e w27 ⟨rfl, hb⟩
                    refine ⟨_, rfl, ?_⟩
                    have n0_ := Aside0.mk (bb_ BK335.out hb)
                    have n1_ := Aside0.mk (bb_ BK336.out hb)
                    have n2_ := Aside0.mk (bs_ hb)
                    clear BK335 BK336 HB
                    have BK335 := n0_
                    have BK336 := n1_
                    have HB := n2_
                    clear n0_ n1_ n2_
                    (try clear hb)
                    (try clear hb2)
                    (try clear hk)
                    (try clear hi)
                    refine hK.out _ _ ⟨(blk_cell BK335.out 0).trans rfl, (blk_cell BK335.out 1).trans rfl, (blk_cell BK335.out 2).trans rfl, (blk_cell BK336.out 0).trans rfl, (blk_cell BK336.out 1).trans rfl, (blk_cell BK336.out 2).trans rfl, ((HB.out.cell (World.block_lt_of_cell? w _ hw338_0)).trans hw338_0), ((HB.out.cell (World.block_lt_of_cell? w _ hw338_1)).trans hw338_1), ((HB.out.cell (World.block_lt_of_cell? w _ hw339_0)).trans hw339_0), ((HB.out.cell (World.block_lt_of_cell? w _ hw339_1)).trans hw339_1)⟩ (fun hHeld => ?_)
                    clear hK K
                    refine norm_ (a' := ?_) ?_ ?_
                    rotate_left
                    · show Act.put _ (some 45) _ = _
                      simp only [Act.put, List.setIfInBounds_toArray, List.set_cons_zero, List.set_cons_succ, i64_w, i32_w]
                      rfl
                    refine pure_ (i := 11) (N := some 46) (v := ?_) (a' := ?_) #[true, true, true, true, true, true, true, true, true, true, true, true] rfl rfl (any_of HT_.out (by kernel_rfl)) (fun _ _ _ h => h) (Or.inl ⟨by rfl, ?_⟩) ?_ ?_
                    rotate_left
                    · intro w'
                      go_simp
                      with_reducible rfl
                    rotate_left
                    · simp only [Act.put, List.setIfInBounds_toArray, List.set_cons_zero, List.set_cons_succ, i64_w, i32_w]
                      rfl
                    refine done_ (done_of HT_.out (by kernel_rfl)) ?_
                    try go_wp2
                    go_roundg k2
                    case measure => have := HJ2.out; have := HK2.out; omega
                    case rel => exact ⟨(wrap64 (x5_2 + 1)), (by first | rfl | (simp; done) | (simp [*]; done)), H', ⟨by have := HJ2.out; have := HK2.out; omega⟩, ⟨by (with_reducible repeat (first | refine blk_drewN ?_ _ | refine blk_drew ?_ | refine blk_alloc ?_ _)); exact BK335.out⟩, ⟨by (with_reducible repeat (first | refine blk_drewN ?_ _ | refine blk_drew ?_ | refine blk_alloc ?_ _)); exact BK336.out⟩, ⟨by repeat (first | (with_reducible first | exact HB.out | apply below_alloc | apply pw_below_drewN | apply below_drew1 | refine below_set ?_ GE335.out | refine below_set ?_ GE336.out) | exact HB.out)⟩⟩
                  · replace c23 := Bool.eq_false_iff.mpr c23
                    subst c23
                    have H1 : (some false) = some r := by rw [if_neg (show ¬ (false = true) by decide)] at H; exact H
                    clear H
                    have H := H1
                    clear H1
                    obtain rfl := Option.some.inj H
                    have hnb28 := NB335_336.out
                    have hnc28 := NB336_335.out
                    have ⟨hcz29_0, hcz29_1, hcz29_2⟩ := cz3_ BK335.out
                    have ⟨hfz29_0, hfz29_1, hfz29_2⟩ := fz3_ BK335.out
                    try go_wp2
                    have n0_ := Aside0.mk (blk_drew BK335.out)
                    have n1_ := Aside0.mk (blk_drew BK336.out)
                    have n2_ := Aside0.mk (below_drew1 HB.out)
                    clear BK335 BK336 HB
                    have BK335 := n0_
                    have BK336 := n1_
                    have HB := n2_
                    clear n0_ n1_ n2_
                    have p338 : 0 ≤ (x5_2 : Int) := of_decide_eq_true (by first | (with_reducible assumption) | assumption)
                    have q338 : x5_2 < (l0_1.length : Int) := of_decide_eq_true (by first | (with_reducible assumption) | assumption)
                    obtain ⟨ad338, A338_1, c338_1, e338, hx338_0, hx338_1, hl338_1, hi338_1⟩ := at_T29 HR0_1.out x5_2 p338 q338
                    have hw338_1 := hx338_1
                    have hw338_0 := hx338_0
                    cases e338
                    replace hx338_0 := (HB.out.cell (World.block_lt_of_cell? w _ hx338_0)).trans hx338_0
                    replace hx338_1 := (HB.out.cell (World.block_lt_of_cell? w _ hx338_1)).trans hx338_1
                    have HR338_1 := Aside0.mk hi338_1
                    have HC338_1 := Aside0.mk hl338_1
                    clear hi338_1 hl338_1
                    replace p338 := eq_true p338
                    replace q338 := eq_true q338
                    have p339 : 0 ≤ (x5_2 : Int) := of_decide_eq_true (by first | (with_reducible assumption) | assumption)
                    have q339 : x5_2 < (l1_1.length : Int) := of_decide_eq_true (by first | (with_reducible assumption) | assumption)
                    obtain ⟨ad339, A339_1, c339_1, e339, hx339_0, hx339_1, hl339_1, hi339_1⟩ := at_T29 HR1_1.out x5_2 p339 q339
                    have hw339_1 := hx339_1
                    have hw339_0 := hx339_0
                    cases e339
                    replace hx339_0 := (HB.out.cell (World.block_lt_of_cell? w _ hx339_0)).trans hx339_0
                    replace hx339_1 := (HB.out.cell (World.block_lt_of_cell? w _ hx339_1)).trans hx339_1
                    have HR339_1 := Aside0.mk hi339_1
                    have HC339_1 := Aside0.mk hl339_1
                    clear hi339_1 hl339_1
                    replace p339 := eq_true p339
                    replace q339 := eq_true q339
                    refine start_ (n := 12) (S := fun w' => w'.cell? ⟨gb335, 0, none⟩ = some (.int .i64 a0_0) ∧ w'.cell? ⟨gb335, 1, none⟩ = some (.slice (some ad338) l0_1.length c0_1) ∧ w'.cell? ⟨gb335, 2, none⟩ = some (.slice A0_2 l0_2.length c0_2) ∧ w'.cell? ⟨gb336, 0, none⟩ = some (.int .i64 a1_0) ∧ w'.cell? ⟨gb336, 1, none⟩ = some (.slice (some ad339) l1_1.length c1_1) ∧ w'.cell? ⟨gb336, 2, none⟩ = some (.slice A1_2 l1_2.length c1_2) ∧ w'.cell? (ad338.add ((x5_2).toNat * 2)) = some (.int .u32 ((rd_T29 l0_1 x5_2).f0)) ∧ w'.cell? ⟨(ad338.add ((x5_2).toNat * 2)).block, (ad338.add ((x5_2).toNat * 2)).off + 1, none⟩ = some (.slice A338_1 ((rd_T29 l0_1 x5_2).f1).length c338_1) ∧ w'.cell? (ad339.add ((x5_2).toNat * 2)) = some (.int .u32 ((rd_T29 l1_1 x5_2).f0)) ∧ w'.cell? ⟨(ad339.add ((x5_2).toNat * 2)).block, (ad339.add ((x5_2).toNat * 2)).off + 1, none⟩ = some (.slice A339_1 ((rd_T29 l1_1 x5_2).f1).length c339_1)) (ds := []) #[false, false, false, false, false, false, false, false, false, false, false, false] (by kernel_rfl) rfl rfl ⟨(blk_cell BK335.out 0).trans rfl, (blk_cell BK335.out 1).trans rfl, (blk_cell BK335.out 2).trans rfl, (blk_cell BK336.out 0).trans rfl, (blk_cell BK336.out 1).trans rfl, (blk_cell BK336.out 2).trans rfl, ((HB.out.cell (World.block_lt_of_cell? w _ hw338_0)).trans hw338_0), ((HB.out.cell (World.block_lt_of_cell? w _ hw338_1)).trans hw338_1), ((HB.out.cell (World.block_lt_of_cell? w _ hw339_0)).trans hw339_0), ((HB.out.cell (World.block_lt_of_cell? w _ hw339_1)).trans hw339_1)⟩ (fun hHeld => ?_); refine with_tabW chamberlainref06_Same.tab6 chamberlainref06_Same.bits6 (fun HT_ HW_ => ?_)
                    generalize wr.drew = w30 at BK335 BK336 HB HR338_1 HR339_1 hx338_0 hx338_1 hx339_0 hx339_1 hHeld ⊢
                    refine pure_ (i := 0) (N := some 35) (v := ?_) (a' := ?_) #[true, false, false, false, false, false, false, false, false, false, false, false] rfl rfl (any_of HT_.out (by kernel_rfl)) (fun _ _ _ h => h) (Or.inl ⟨by rfl, ?_⟩) ?_ ?_
                    rotate_left
                    · intro w'
                      go_simp
                      with_reducible rfl
                    rotate_left
                    · simp only [Act.put, List.setIfInBounds_toArray, List.set_cons_zero, List.set_cons_succ, i64_w, i32_w]
                      rfl
                    refine pure_ (i := 2) (N := some 37) (v := ?_) (a' := ?_) #[true, false, true, false, false, false, false, false, false, false, false, false] rfl rfl (any_of HT_.out (by kernel_rfl)) (fun _ _ _ h => h) (Or.inl ⟨by rfl, ?_⟩) ?_ ?_
                    rotate_left
                    · intro w'
                      go_simp
                      with_reducible rfl
                    rotate_left
                    · simp only [Act.put, List.setIfInBounds_toArray, List.set_cons_zero, List.set_cons_succ, i64_w, i32_w]
                      rfl
                    refine pure_ (i := 5) (N := some 40) (v := ?_) (a' := ?_) #[true, false, true, false, false, true, false, false, false, false, false, false] rfl rfl (any_of HT_.out (by kernel_rfl)) (fun _ _ _ h => h) (Or.inl ⟨by rfl, ?_⟩) ?_ ?_
                    rotate_left
                    · intro w'
                      go_simp
                      with_reducible rfl
                    rotate_left
                    · simp only [Act.put, List.setIfInBounds_toArray, List.set_cons_zero, List.set_cons_succ, i64_w, i32_w]
                      rfl
                    refine pure_ (i := 7) (N := some 42) (v := ?_) (a' := ?_) #[true, false, true, false, false, true, false, true, false, false, false, false] rfl rfl (any_of HT_.out (by kernel_rfl)) (fun _ _ _ h => h) (Or.inl ⟨by rfl, ?_⟩) ?_ ?_
                    rotate_left
                    · intro w'
                      go_simp
                      with_reducible rfl
                    rotate_left
                    · simp only [Act.put, List.setIfInBounds_toArray, List.set_cons_zero, List.set_cons_succ, i64_w, i32_w]
                      rfl
                    refine take_ (i := 1) (N := some 36) (v := ?_) (a' := ?_) #[true, true, true, false, false, true, false, true, false, false, false, false] rfl rfl (take_ofW HT_.out HW_.out (by kernel_rfl)) (fun _ _ _ h => h) (Or.inl ⟨by rfl, ?_⟩) hHeld ?_ ?_
                    rotate_left
                    · rintro w' ⟨s0, s1, s2, s3, s4, s5, s6, s7, s8, s9⟩
                      go_simp
                      with_reducible rfl
                    rotate_left
                    · simp only [Act.put, List.setIfInBounds_toArray, List.set_cons_zero, List.set_cons_succ, i64_w, i32_w]
                      rfl
                    refine pure_ (i := 3) (N := some 38) (v := ?_) (a' := ?_) #[true, true, true, true, false, true, false, true, false, false, false, false] rfl rfl (any_of HT_.out (by kernel_rfl)) (fun _ _ _ h => h) (Or.inl ⟨by rfl, ?_⟩) ?_ ?_
                    rotate_left
                    · intro w'
                      go_simp
                      with_reducible rfl
                    rotate_left
                    · simp only [Act.put, List.setIfInBounds_toArray, List.set_cons_zero, List.set_cons_succ, i64_w, i32_w]
                      rfl
                    refine take_ (i := 4) (N := some 39) (v := ?_) (a' := ?_) #[true, true, true, true, true, true, false, true, false, false, false, false] rfl rfl (take_ofW HT_.out HW_.out (by kernel_rfl)) (fun _ _ _ h => h) (Or.inl ⟨by rfl, ?_⟩) hHeld ?_ ?_
                    rotate_left
                    · rintro w' ⟨s0, s1, s2, s3, s4, s5, s6, s7, s8, s9⟩
                      go_simp
                      with_reducible rfl
                    rotate_left
                    · simp only [Act.put, List.setIfInBounds_toArray, List.set_cons_zero, List.set_cons_succ, i64_w, i32_w]
                      rfl
                    refine take_ (i := 6) (N := some 41) (v := ?_) (a' := ?_) #[true, true, true, true, true, true, true, true, false, false, false, false] rfl rfl (take_ofW HT_.out HW_.out (by kernel_rfl)) (fun _ _ _ h => h) (Or.inl ⟨by rfl, ?_⟩) hHeld ?_ ?_
                    rotate_left
                    · rintro w' ⟨s0, s1, s2, s3, s4, s5, s6, s7, s8, s9⟩
                      go_simp
                      with_reducible rfl
                    rotate_left
                    · simp only [Act.put, List.setIfInBounds_toArray, List.set_cons_zero, List.set_cons_succ, i64_w, i32_w]
                      rfl
                    refine pure_ (i := 8) (N := some 43) (v := ?_) (a' := ?_) #[true, true, true, true, true, true, true, true, true, false, false, false] rfl rfl (any_of HT_.out (by kernel_rfl)) (fun _ _ _ h => h) (Or.inl ⟨by rfl, ?_⟩) ?_ ?_
                    rotate_left
                    · intro w'
                      go_simp
                      with_reducible rfl
                    rotate_left
                    · simp only [Act.put, List.setIfInBounds_toArray, List.set_cons_zero, List.set_cons_succ, i64_w, i32_w]
                      rfl
                    refine take_ (i := 9) (N := some 44) (v := ?_) (a' := ?_) #[true, true, true, true, true, true, true, true, true, true, false, false] rfl rfl (take_ofW HT_.out HW_.out (by kernel_rfl)) (fun _ _ _ h => h) (Or.inl ⟨by rfl, ?_⟩) hHeld ?_ ?_
                    rotate_left
                    · rintro w' ⟨s0, s1, s2, s3, s4, s5, s6, s7, s8, s9⟩
                      go_simp
                      with_reducible rfl
                    rotate_left
                    · simp only [Act.put, List.setIfInBounds_toArray, List.set_cons_zero, List.set_cons_succ, i64_w, i32_w]
                      rfl
                    refine one_ (i := 10) (N := some 45) #[true, true, true, true, true, true, true, true, true, true, true, false] rfl rfl (one_of HT_.out (by kernel_rfl)) (by decide) (fun K hK => ?_)
                    refine goes_ Try.func19 (by kernel_rfl) rfl #[.agg #[.int .u32 ((rd_T29 l0_1 x5_2).f0), .slice A338_1 ((rd_T29 l0_1 x5_2).f1).length c338_1], .agg #[.int .u32 ((rd_T29 l1_1 x5_2).f0), .slice A339_1 ((rd_T29 l1_1 x5_2).f1).length c339_1]] (by rfl) rfl rfl (by (try simp only [List.map_toArray, List.map_cons, List.map_nil]); first | done | rfl | (simp only [List.length_drop, List.length_take]; rfl)) ?_
                    with_reducible refine (chamberlainref06_One.calls k2 ((rd_T29 l0_1 x5_2).f0) _ _ ((rd_T29 l0_1 x5_2).f1) ((rd_T29 l1_1 x5_2).f0) _ _ ((rd_T29 l1_1 x5_2).f1) false _ ?side1 ?side2 ?side3 ?side4 A22.out).mono ?_
                    (case side1 => repeat (first | exact (Kd.C_below HR338_1.out HB.out) | (with_reducible refine Kd.C_alloc ?_ _) | (with_reducible refine Kd.C_drewN ?_ _) | (with_reducible refine Kd.C_drew ?_)))
                    (case side2 => exact HC338_1.out)
                    (case side3 => repeat (first | exact (Kd.C_below HR339_1.out HB.out) | (with_reducible refine Kd.C_alloc ?_ _) | (with_reducible refine Kd.C_drewN ?_ _) | (with_reducible refine Kd.C_drew ?_)))
                    (case side4 => exact HC339_1.out)
                    rintro e w31 ⟨rfl, hb⟩
                    refine ⟨_, rfl, ?_⟩
                    have n0_ := Aside0.mk (bb_ BK335.out hb)
                    have n1_ := Aside0.mk (bb_ BK336.out hb)
                    have n2_ := Aside0.mk (bs_ hb)
                    clear BK335 BK336 HB
                    have BK335 := n0_
                    have BK336 := n1_
                    have HB := n2_
                    clear n0_ n1_ n2_
                    (try clear hb)
                    (try clear hb2)
                    (try clear hk)
                    (try clear hi)
                    refine hK.out _ _ ⟨(blk_cell BK335.out 0).trans rfl, (blk_cell BK335.out 1).trans rfl, (blk_cell BK335.out 2).trans rfl, (blk_cell BK336.out 0).trans rfl, (blk_cell BK336.out 1).trans rfl, (blk_cell BK336.out 2).trans rfl, ((HB.out.cell (World.block_lt_of_cell? w _ hw338_0)).trans hw338_0), ((HB.out.cell (World.block_lt_of_cell? w _ hw338_1)).trans hw338_1), ((HB.out.cell (World.block_lt_of_cell? w _ hw339_0)).trans hw339_0), ((HB.out.cell (World.block_lt_of_cell? w _ hw339_1)).trans hw339_1)⟩ (fun hHeld => ?_)
                    clear hK K
                    refine norm_ (a' := ?_) ?_ ?_
                    rotate_left
                    · show Act.put _ (some 45) _ = _
                      simp only [Act.put, List.setIfInBounds_toArray, List.set_cons_zero, List.set_cons_succ, i64_w, i32_w]
                      rfl
                    refine pure_ (i := 11) (N := some 46) (v := ?_) (a' := ?_) #[true, true, true, true, true, true, true, true, true, true, true, true] rfl rfl (any_of HT_.out (by kernel_rfl)) (fun _ _ _ h => h) (Or.inl ⟨by rfl, ?_⟩) ?_ ?_
                    rotate_left
                    · intro w'
                      go_simp
                      with_reducible rfl
                    rotate_left
                    · simp only [Act.put, List.setIfInBounds_toArray, List.set_cons_zero, List.set_cons_succ, i64_w, i32_w]
                      rfl
                    refine done_ (done_of HT_.out (by kernel_rfl)) ?_
                    try go_wp2
                    go_ret
                    exact ⟨by first | rfl | (simp [errW_none, errW_some] <;> rfl) | (simp [*, errW_none, errW_some] <;> rfl), by repeat (first | (with_reducible first | exact HB.out | apply below_alloc | apply pw_below_drewN | apply below_drew1 | refine below_set ?_ GE335.out | refine below_set ?_ GE336.out) | exact HB.out)⟩
                · rw [if_neg c21] at H
                  exact absurd H (by simp)
              · rw [if_neg c20] at H
                exact absurd H (by simp)
            · rw [if_neg c19] at H
              have c19b0 : decide (x5_2 < (l0_1.length : Int)) = false := decide_eq_false c19
              clear c19
              obtain rfl := Option.some.inj H
              have hnb32 := NB335_336.out
              have hnc32 := NB336_335.out
              have ⟨hcz33_0, hcz33_1, hcz33_2⟩ := cz3_ BK335.out
              have ⟨hfz33_0, hfz33_1, hfz33_2⟩ := fz3_ BK335.out
              go_wp2
              go_ret
              exact ⟨by first | rfl | (simp [errW_none, errW_some] <;> rfl) | (simp [*, errW_none, errW_some] <;> rfl), by repeat (first | (with_reducible first | exact HB.out | apply below_alloc | apply pw_below_drewN | apply below_drew1 | refine below_set ?_ GE335.out | refine below_set ?_ GE336.out) | exact HB.out)⟩

/-! ### chamberlainlaw06_NetKeeps: function 6 -/
def chamberlainlaw06_NetKeeps.f (a0_0 : Int) (l0_1 : List (S29)) (l0_2 : List (List Int)) (a1_0 : Int) (l1_1 : List Int) (a2 : Int) : Option (Bool) := some true
namespace uk
theorem wf32 {x : Int} (h : (Lit.int .u32 x).wf = true) : 0 ≤ x ∧ x < 4294967296 := by
  simp only [Lit.wf, IntKind.min, IntKind.max, IntKind.signed, IntKind.bits, Bool.and_eq_true] at h
  simp at h
  omega
theorem wf8 {x : Int} (h : (Lit.int .u8 x).wf = true) : 0 ≤ x ∧ x < 256 := by
  simp only [Lit.wf, IntKind.min, IntKind.max, IntKind.signed, IntKind.bits, Bool.and_eq_true] at h
  simp at h
  omega
theorem wf16 {x : Int} (h : (Lit.int .u16 x).wf = true) : 0 ≤ x ∧ x < 65536 := by
  simp only [Lit.wf, IntKind.min, IntKind.max, IntKind.signed, IntKind.bits, Bool.and_eq_true] at h
  simp at h
  omega
theorem wf64 {x : Int} (h : (Lit.int .i64 x).wf = true) : -9223372036854775808 ≤ x ∧ x ≤ 9223372036854775807 := by
  simp only [Lit.wf, IntKind.min, IntKind.max, IntKind.signed, IntKind.bits, Bool.and_eq_true] at h
  simp at h
  omega
theorem w64 {x : Int} (h1 : -9223372036854775808 ≤ x) (h2 : x ≤ 9223372036854775807) : wrap64 x = x := by
  unfold wrap64
  omega
theorem rd_nat (xs : List Int) (i : Nat) (h : i < xs.length) : rd xs (i : Int) = xs[i] := by
  unfold rd
  simp [List.getD_eq_getElem?_getD, h]
/-- From place i on, n places: does p hold of all? -/
def allF (p : Nat → Bool) : Nat → Nat → Bool
  | 0, _ => true
  | n + 1, i => p i && allF p n (i + 1)
theorem allF_iff (p : Nat → Bool) (n i : Nat) : allF p n i = true ↔ ∀ j, i ≤ j → j < i + n → p j = true := by
  induction n generalizing i with
  | zero => simp [allF]; intro j h1 h2; omega
  | succ n ih =>
    simp only [allF, Bool.and_eq_true, ih]
    constructor
    · rintro ⟨h0, h⟩ j h1 h2
      by_cases e : j = i
      · subst e; exact h0
      · exact h j (by omega) (by omega)
    · intro h
      exact ⟨h i (by omega) (by omega), fun j h1 h2 => h j (by omega) (by omega)⟩
/-- The first place from i on, of n, of which p holds. -/
def fnd (p : Nat → Bool) : Nat → Nat → Option Nat
  | 0, _ => none
  | n + 1, i => if p i = true then some i else fnd p n (i + 1)
theorem fnd_some {p : Nat → Bool} {n i j : Nat} (h : fnd p n i = some j) : i ≤ j ∧ j < i + n ∧ p j = true ∧ ∀ m, i ≤ m → m < j → p m = false := by
  induction n generalizing i with
  | zero => simp [fnd] at h
  | succ n ih =>
    simp only [fnd] at h
    by_cases e : p i = true
    · rw [if_pos e] at h
      cases h
      exact ⟨Nat.le_refl _, by omega, e, fun m h1 h2 => by omega⟩
    · rw [if_neg e] at h
      obtain ⟨h1, h2, h3, h4⟩ := ih h
      refine ⟨by omega, by omega, h3, fun m m1 m2 => ?_⟩
      by_cases c : m = i
      · subst c; simpa using e
      · exact h4 m (by omega) m2
theorem fnd_none {p : Nat → Bool} {n i : Nat} (h : fnd p n i = none) : ∀ m, i ≤ m → m < i + n → p m = false := by
  induction n generalizing i with
  | zero => intro m h1 h2; omega
  | succ n ih =>
    simp only [fnd] at h
    by_cases e : p i = true
    · rw [if_pos e] at h; cases h
    · rw [if_neg e] at h
      intro m h1 h2
      by_cases c : m = i
      · subst c; simpa using e
      · exact ih h m (by omega) (by omega)
theorem fnd_eq_some {p : Nat → Bool} {n i j : Nat} (h1 : i ≤ j) (h2 : j < i + n) (h3 : p j = true) (h4 : ∀ m, i ≤ m → m < j → p m = false) : fnd p n i = some j := by
  cases h : fnd p n i with
  | none => have := fnd_none h j h1 h2; rw [this] at h3; cases h3
  | some q =>
    obtain ⟨a, b, c, d⟩ := fnd_some h
    congr 1
    rcases Nat.lt_trichotomy q j with e | e | e
    · have := h4 q a e; rw [this] at c; cases c
    · exact e
    · have := d j h1 e; rw [this] at h3; cases h3
theorem fnd_eq_none {p : Nat → Bool} {n i : Nat} (h : ∀ m, i ≤ m → m < i + n → p m = false) : fnd p n i = none := by
  cases e : fnd p n i with
  | none => rfl
  | some q =>
    obtain ⟨a, b, c, _⟩ := fnd_some e
    rw [h q a b] at c; cases c
theorem rows_eq (a b : List Int) (h : a.length = b.length) : allF (fun i => decide (rd a (i : Int) = rd b (i : Int))) a.length 0 = decide (a = b) := by
  rw [Bool.eq_iff_iff, allF_iff]
  simp only [decide_eq_true_eq]
  constructor
  · intro H
    apply List.ext_getElem h
    intro i h1 h2
    have := H i (by omega) (by omega)
    rw [rd_nat a i h1, rd_nat b i h2] at this
    exact this
  · intro e j _ _
    rw [e]
/-- A loop that asks place by place. -/
theorem all_loop (f : Nat → Nat → Option Bool) (n : Nat) (p : Nat → Bool) (h : ∀ k i, i ≤ n → f (k + 1) i = if i < n then (if p i = true then f k (i + 1) else some false) else some true) :
    ∀ (d k i : Nat), n - i = d → i ≤ n → d < k → f k i = some (allF p d i) := by
  intro d
  induction d with
  | zero =>
    intro k i h1 h2 h3
    obtain ⟨k, rfl⟩ : ∃ m, k = m + 1 := ⟨k - 1, by omega⟩
    rw [h k i h2, if_neg (by omega)]; rfl
  | succ d ih =>
    intro k i h1 h2 h3
    obtain ⟨k, rfl⟩ : ∃ m, k = m + 1 := ⟨k - 1, by omega⟩
    rw [h k i h2, if_pos (by omega)]
    simp only [allF]
    cases e : p i with
    | true => rw [if_pos rfl, ih k (i + 1) (by omega) (by omega) (by omega)]; simp
    | false => simp
/-- A loop that looks for the first place. -/
theorem fnd_loop {α : Type} (f : Nat → Nat → Option α) (n : Nat) (p : Nat → Bool) (yes : Nat → α) (no : α) (c : Nat) (h : ∀ k i, i ≤ n → c ≤ k → f (k + 1) i = if i < n then (if p i = true then some (yes i) else f k (i + 1)) else some no) :
    ∀ (d k i : Nat), n - i = d → i ≤ n → c + d < k → f k i = some (match fnd p d i with | some j => yes j | none => no) := by
  intro d
  induction d with
  | zero =>
    intro k i h1 h2 h3
    obtain ⟨k, rfl⟩ : ∃ m, k = m + 1 := ⟨k - 1, by omega⟩
    rw [h k i h2 (by omega), if_neg (by omega)]; rfl
  | succ d ih =>
    intro k i h1 h2 h3
    obtain ⟨k, rfl⟩ : ∃ m, k = m + 1 := ⟨k - 1, by omega⟩
    rw [h k i h2 (by omega), if_pos (by omega)]
    simp only [fnd]
    cases e : p i with
    | true => simp
    | false => rw [if_neg (by simp), if_neg (by simp), ih k (i + 1) (by omega) (by omega) (by omega)]
theorem rsame_eq (a b : List Int) (k : Nat) (hb : a.length ≤ 4611686018427387904) (hk : a.length < k) : chamberlainref01_Same.f k a b = some (decide (a = b)) := by
  unfold chamberlainref01_Same.f
  by_cases hl : a.length = b.length
  · rw [if_pos (by omega)]
    have h := all_loop (fun k i => chamberlainref01_Same.l0 k a b (i : Int)) a.length (fun i => decide (rd a (i : Int) = rd b (i : Int))) (by
      intro k i hi
      simp only [chamberlainref01_Same.l0]
      by_cases c : i < a.length
      · rw [if_pos (by omega), if_pos (by omega), if_pos (by omega), if_pos c, w64 (by omega) (by omega)]
        simp
      · rw [if_neg (by omega), if_neg c]) a.length k 0 (by omega) (by omega) (by omega)
    simp only [Int.natCast_zero] at h
    rw [h, rows_eq a b hl]
  · rw [if_neg (by omega)]
    congr 1
    symm
    apply decide_eq_false
    intro e
    exact hl (by rw [e])
theorem rdS (l : List S29) (i : Nat) (h : i < l.length) : rd_T29 l (i : Int) = l[i] := by
  unfold rd_T29
  simp [List.getD_eq_getElem?_getD, h]
theorem rdL (l : List (List Int)) (i : Nat) (h : i < l.length) : rd_L1 l (i : Int) = l[i] := by
  unfold rd_L1
  simp [List.getD_eq_getElem?_getD, h]
theorem awake60 (k : Nat) (hk : 60 ≤ k) : chamberlainlaw06_awake.f k = some true := at_rounds chamberlainlaw06_awake.mono hk chamberlainlaw06_awake.at60
/-- The rows of a small net. -/
structure Few (l : List S29) (s : List (List Int)) : Prop where
  lg : l.length ≤ 64
  ls : s.length ≤ 300
  wg : ∀ x ∈ l, x.f1.length ≤ 100
  ws : ∀ x ∈ s, x.length ≤ 100
theorem few_seen (a : Int) (l : List S29) (s : List (List Int)) (hl : s.length ≤ 9223372036854775807) : ∀ (d k i : Nat), 400 - i = d → i ≤ 400 → 2 * d + 2 ≤ k → ∃ b, chamberlainref06_Few.l1 k (i : Int) a l s = some b ∧ (b = true → l.length ≤ 64 ∧ s.length ≤ 300 ∧ ∀ j (hj : j < s.length), i ≤ j → j < 400 → s[j].length ≤ 100) := by
  intro d
  have e : (if (l.length : Int) ≤ 64 then (some (decide ((s.length : Int) ≤ 300))) else (some false)) = some (decide (l.length ≤ 64) && decide (s.length ≤ 300)) := by
    by_cases c : l.length ≤ 64
    · rw [if_pos (by omega), decide_eq_true c, Bool.true_and]; congr 1; rw [Bool.eq_iff_iff]; simp; omega
    · rw [if_neg (by omega), decide_eq_false c, Bool.false_and]
  have f : (decide (l.length ≤ 64) && decide (s.length ≤ 300)) = true → l.length ≤ 64 ∧ s.length ≤ 300 := by simp
  induction d with
  | zero =>
    intro k i h1 h2 h3
    obtain ⟨k, rfl⟩ : ∃ m, k = m + 2 := ⟨k - 2, by omega⟩
    refine ⟨_, ?_, fun h => ⟨(f h).1, (f h).2, fun j hj h1 h2 => by omega⟩⟩
    rw [chamberlainref06_Few.l1]
    by_cases c : (i : Int) < (s.length : Int)
    · rw [if_pos c, show decide ((i : Int) < 400) = false from decide_eq_false (by omega), chamberlainref06_Few.j3, if_neg (by decide), e]
    · rw [if_neg c, chamberlainref06_Few.j3, if_neg (by decide), e]
  | succ d ih =>
    intro k i h1 h2 h3
    obtain ⟨k, rfl⟩ : ∃ m, k = m + 2 := ⟨k - 2, by omega⟩
    rw [chamberlainref06_Few.l1]
    by_cases c : i < s.length
    · rw [if_pos (by omega), show decide ((i : Int) < 400) = true from decide_eq_true (by omega), chamberlainref06_Few.j3, if_pos rfl, if_pos (by omega), if_pos (by omega), rdL s i c]
      by_cases g : (s[i].length : Int) > 100
      · rw [if_pos g]
        exact ⟨false, rfl, fun h => by cases h⟩
      · rw [if_neg g, w64 (by omega) (by omega), show (i : Int) + 1 = ((i + 1 : Nat) : Int) by omega]
        obtain ⟨b, hb, hs⟩ := ih k (i + 1) (by omega) (by omega) (by omega)
        refine ⟨b, hb, fun h => ⟨(hs h).1, (hs h).2.1, fun j hj h1 h2 => ?_⟩⟩
        rcases Nat.lt_or_ge i j with q | q
        · exact (hs h).2.2 j hj q h2
        · obtain rfl : j = i := by omega
          omega
    · rw [if_neg (by omega), chamberlainref06_Few.j3, if_neg (by decide), e]
      exact ⟨_, rfl, fun h => ⟨(f h).1, (f h).2, fun j hj h1 h2 => by omega⟩⟩
theorem few_grams (a : Int) (l : List S29) (s : List (List Int)) (hl : l.length ≤ 9223372036854775807) (hs : s.length ≤ 9223372036854775807) : ∀ (d k i : Nat), 100 - i = d → i ≤ 100 → 2 * d + 1000 ≤ k → ∃ b, chamberlainref06_Few.l0 k (i : Int) a l s = some b ∧ (b = true → l.length ≤ 64 ∧ s.length ≤ 300 ∧ (∀ j (hj : j < s.length), j < 400 → s[j].length ≤ 100) ∧ ∀ j (hj : j < l.length), i ≤ j → j < 100 → l[j].f1.length ≤ 100) := by
  intro d
  induction d with
  | zero =>
    intro k i h1 h2 h3
    obtain ⟨k, rfl⟩ : ∃ m, k = m + 2 := ⟨k - 2, by omega⟩
    obtain ⟨b, hb, hq⟩ := few_seen a l s hs 400 k 0 rfl (by omega) (by omega)
    simp only [Int.natCast_zero] at hb
    refine ⟨b, ?_, fun h => ⟨(hq h).1, (hq h).2.1, fun j hj h2 => (hq h).2.2 j hj (Nat.zero_le _) h2, fun j hj h1 h2 => by omega⟩⟩
    rw [chamberlainref06_Few.l0]
    by_cases c : (i : Int) < (l.length : Int)
    · rw [if_pos c, show decide ((i : Int) < 100) = false from decide_eq_false (by omega), chamberlainref06_Few.j1, if_neg (by decide), hb]
    · rw [if_neg c, chamberlainref06_Few.j1, if_neg (by decide), hb]
  | succ d ih =>
    intro k i h1 h2 h3
    obtain ⟨k, rfl⟩ : ∃ m, k = m + 2 := ⟨k - 2, by omega⟩
    rw [chamberlainref06_Few.l0]
    by_cases c : i < l.length
    · rw [if_pos (by omega), show decide ((i : Int) < 100) = true from decide_eq_true (by omega), chamberlainref06_Few.j1, if_pos rfl, if_pos (by omega), if_pos (by omega), rdS l i c]
      by_cases g : (l[i].f1.length : Int) > 100
      · rw [if_pos g]
        exact ⟨false, rfl, fun h => by cases h⟩
      · rw [if_neg g, w64 (by omega) (by omega), show (i : Int) + 1 = ((i + 1 : Nat) : Int) by omega]
        obtain ⟨b, hb, hq⟩ := ih k (i + 1) (by omega) (by omega) (by omega)
        refine ⟨b, hb, fun h => ⟨(hq h).1, (hq h).2.1, (hq h).2.2.1, fun j hj h1 h2 => ?_⟩⟩
        rcases Nat.lt_or_ge i j with q | q
        · exact (hq h).2.2.2 j hj q h2
        · obtain rfl : j = i := by omega
          omega
    · obtain ⟨b, hb, hq⟩ := few_seen a l s hs 400 k 0 rfl (by omega) (by omega)
      simp only [Int.natCast_zero] at hb
      rw [if_neg (by omega), chamberlainref06_Few.j1, if_neg (by decide), hb]
      exact ⟨_, rfl, fun h => ⟨(hq h).1, (hq h).2.1, fun j hj h2 => (hq h).2.2 j hj (Nat.zero_le _) h2, fun j hj h1 h2 => by omega⟩⟩
theorem few_some (a : Int) (l : List S29) (s : List (List Int)) (k : Nat) (hl : l.length ≤ 9223372036854775807) (hs : s.length ≤ 9223372036854775807) (hk : 2000 ≤ k) : ∃ b, chamberlainref06_Few.f k a l s = some b ∧ (b = true → Few l s) := by
  unfold chamberlainref06_Few.f
  obtain ⟨b, hb, hq⟩ := few_grams a l s hl hs 100 k 0 rfl (by omega) (by omega)
  refine ⟨b, hb, fun h => ?_⟩
  obtain ⟨q1, q2, q3, q4⟩ := hq h
  refine ⟨q1, q2, fun x hx => ?_, fun x hx => ?_⟩
  · obtain ⟨j, hj, rfl⟩ := List.getElem_of_mem hx
    exact q4 j hj (Nat.zero_le _) (by omega)
  · obtain ⟨j, hj, rfl⟩ := List.getElem_of_mem hx
    exact q3 j hj (by omega)
theorem rows_self (s : List (List Int)) (k : Nat) (hl : s.length ≤ 4611686018427387904) (hw : ∀ x ∈ s, x.length ≤ 100) (hk : s.length + 200 < k) : chamberlainref01_Rows.f k s s = some true := by
  unfold chamberlainref01_Rows.f
  rw [if_pos rfl]
  have : ∀ (d k i : Nat), s.length - i = d → i ≤ s.length → d + 200 < k → chamberlainref01_Rows.l0 k s s (i : Int) = some true := by
    intro d
    induction d with
    | zero =>
      intro k i h1 h2 h3
      obtain ⟨k, rfl⟩ : ∃ m, k = m + 1 := ⟨k - 1, by omega⟩
      rw [chamberlainref01_Rows.l0, if_neg (by omega)]
    | succ d ih =>
      intro k i h1 h2 h3
      obtain ⟨k, rfl⟩ : ∃ m, k = m + 1 := ⟨k - 1, by omega⟩
      have hi : i < s.length := by omega
      have hx := hw _ (List.getElem_mem hi)
      rw [chamberlainref01_Rows.l0, if_pos (by omega), if_pos (by omega), if_pos (by omega), rdL s i hi, rsame_eq _ _ _ (by omega) (by omega), Option.bind_some, if_pos (by simp), w64 (by omega) (by omega), show (i : Int) + 1 = ((i + 1 : Nat) : Int) by omega, ih k (i + 1) (by omega) (by omega) (by omega)]
  have := this s.length k 0 (by omega) (by omega) hk
  simpa using this
theorem one_self (a : Int) (l : List Int) (k : Nat) (hl : l.length ≤ 100) (hk : 200 ≤ k) : chamberlainref06_One.f k a l a l = some true := by
  unfold chamberlainref06_One.f
  rw [if_pos rfl, rsame_eq _ _ _ (by omega) (by omega), Option.bind_some]; simp
theorem same_self (a : Int) (l : List S29) (s : List (List Int)) (k : Nat) (h1 : l.length ≤ 100) (h2 : s.length ≤ 400) (h3 : ∀ x ∈ l, x.f1.length ≤ 100) (h4 : ∀ x ∈ s, x.length ≤ 100) (hk : 2000 ≤ k) : chamberlainref06_Same.f k a l s a l s = some true := by
  unfold chamberlainref06_Same.f
  rw [if_pos rfl, if_pos rfl, rows_self s k (by omega) h4 (by omega), Option.bind_some]
  obtain ⟨k, rfl⟩ : ∃ m, k = m + 1 := ⟨k - 1, by omega⟩
  rw [chamberlainref06_Same.j0, if_neg (by simp)]
  have : ∀ (d k i : Nat), l.length - i = d → i ≤ l.length → d + 300 < k → chamberlainref06_Same.l0 k (i : Int) a l s a l s = some true := by
    intro d
    induction d with
    | zero =>
      intro k i h1 h2 h3
      obtain ⟨k, rfl⟩ : ∃ m, k = m + 1 := ⟨k - 1, by omega⟩
      rw [chamberlainref06_Same.l0, if_neg (by omega)]
    | succ d ih =>
      intro k i q1 q2 q3
      obtain ⟨k, rfl⟩ : ∃ m, k = m + 1 := ⟨k - 1, by omega⟩
      have hi : i < l.length := by omega
      have hx := h3 _ (List.getElem_mem hi)
      rw [chamberlainref06_Same.l0, if_pos (by omega), if_pos (by omega), if_pos (by omega), rdS l i hi, one_self _ _ _ hx (by omega), Option.bind_some, if_pos rfl, w64 (by omega) (by omega), show (i : Int) + 1 = ((i + 1 : Nat) : Int) by omega, ih k (i + 1) (by omega) (by omega) (by omega)]
  have := this l.length k 0 (by omega) (by omega) (by omega)
  simpa using this
/-- Is a net right? -/
def rightB (a : Int) (l : List S29) : Bool := decide (0 ≤ a) && decide (a ≤ 64) && decide ((l.length : Int) ≤ a)
theorem right_eq (a : Int) (l : List S29) (s : List (List Int)) : net_Right.f a l s = some (rightB a l) := by
  unfold net_Right.f rightB
  by_cases c : a ≥ 0
  · by_cases d : a ≤ 64
    · rw [if_pos c, if_pos d, decide_eq_true c, decide_eq_true d]; rfl
    · rw [if_pos c, if_neg d, decide_eq_false d]; simp
  · rw [if_neg c, decide_eq_false c]; rfl
theorem rright_eq (a : Int) (l : List S29) (s : List (List Int)) : chamberlainref06_Right.f a l s = some (rightB a l) := by
  unfold chamberlainref06_Right.f rightB
  by_cases c : a ≥ 0
  · by_cases d : a ≤ 64
    · rw [if_pos c, if_pos d, decide_eq_true c, decide_eq_true d]; rfl
    · rw [if_pos c, if_neg d, decide_eq_false d]; simp
  · rw [if_neg c, decide_eq_false c]; rfl
theorem rightB_iff (a : Int) (l : List S29) : rightB a l = true ↔ 0 ≤ a ∧ a ≤ 64 ∧ (l.length : Int) ≤ a := by
  unfold rightB
  simp [and_assoc]
/-- What is sent. -/
def sendM (a : Int) (l : List S29) (s : List (List Int)) (t : Int) (w : List Int) : Int × List S29 × List (List Int) × Int :=
  if (l.length : Int) < a then (a, l ++ [⟨t, w⟩], s ++ [w], 0) else (a, l, s, 10)
theorem send_eq (a : Int) (l : List S29) (s : List (List Int)) (t : Int) (w : List Int) (h0 : 0 ≤ a) (h1 : a ≤ 1000) (h2 : l.length ≤ 1000) (h3 : s.length ≤ 1000) : net_Send.f a l s t w = some (sendM a l s t w) := by
  unfold net_Send.f sendM
  rw [w64 (by omega) (by omega)]
  by_cases c : (l.length : Int) < a
  · rw [if_neg (by omega), if_pos (by omega), if_pos (by omega), if_pos c]
  · rw [if_pos (by omega), if_neg c]
theorem rsend_eq (a : Int) (l : List S29) (s : List (List Int)) (t : Int) (w : List Int) (h2 : l.length ≤ 1000) (h3 : s.length ≤ 1000) : chamberlainref06_Send.f a l s t w = some (sendM a l s t w) := by
  unfold chamberlainref06_Send.f sendM
  by_cases c : (l.length : Int) < a
  · rw [if_neg (by omega), if_pos c]
    simp only [Option.bind_some, List.nil_append, List.length_nil, List.length_cons]
    rw [if_pos (by omega), if_pos (by omega), if_pos (by omega), if_pos (by omega)]
  · rw [if_pos (by omega), if_neg c]
/-- What is taken. -/
def takeM (a : Int) (l : List S29) (s : List (List Int)) (i : Int) : Int × List S29 × List (List Int) × Int × List Int × Int :=
  if 0 ≤ i ∧ i < (l.length : Int) then (a, l.eraseIdx i.toNat, s, (rd_T29 l i).f0, (rd_T29 l i).f1, 0) else (a, l, s, 0, [], 1)
theorem take_eq (a : Int) (l : List S29) (s : List (List Int)) (i : Int) (h2 : l.length ≤ 1000) : net_Take.f a l s i = some (takeM a l s i) := by
  unfold net_Take.f takeM
  by_cases c : i < 0
  · rw [if_pos c, if_neg (by omega)]
  · by_cases d : i ≥ (l.length : Int)
    · rw [if_neg c, if_pos d, if_neg (by omega)]
    · rw [if_neg c, if_neg d, if_pos (by omega), if_pos (by omega)]
theorem rtake_loop (a : Int) (l : List S29) (s : List (List Int)) (i : Nat) (hi : i < l.length) (h2 : l.length ≤ 1000) : ∀ (d k j : Nat) (acc : List S29), l.length - j = d → j ≤ l.length → acc.length ≤ j → d < k → chamberlainref06_Take.l0 k (i : Int) acc (j : Int) a l s = some (a, acc ++ (if i < j then l.drop j else (l.drop j).eraseIdx (i - j)), s, (rd_T29 l i).f0, (rd_T29 l i).f1, 0) := by
  intro d
  induction d with
  | zero =>
    intro k j acc q1 q2 q3 q4
    obtain ⟨k, rfl⟩ : ∃ m, k = m + 1 := ⟨k - 1, by omega⟩
    rw [chamberlainref06_Take.l0, if_neg (by omega), if_pos (by omega), if_pos (by omega), if_pos (by omega), List.drop_eq_nil_of_le (by omega), List.append_nil]
  | succ d ih =>
    intro k j acc q1 q2 q3 q4
    obtain ⟨k, rfl⟩ : ∃ m, k = m + 1 := ⟨k - 1, by omega⟩
    have hj : j < l.length := by omega
    rw [chamberlainref06_Take.l0, if_pos (by omega)]
    by_cases c : j = i
    · subst c
      rw [if_pos rfl, w64 (by omega) (by omega), show (j : Int) + 1 = ((j + 1 : Nat) : Int) by omega, ih k (j + 1) acc (by omega) (by omega) (by omega) (by omega), if_pos (by omega), if_neg (by omega), Nat.sub_self, List.drop_eq_getElem_cons hj, List.eraseIdx_cons_zero]
    · rw [if_neg (by omega), if_pos (by omega), if_pos (by omega), w64 (by omega) (by omega), show (j : Int) + 1 = ((j + 1 : Nat) : Int) by omega, ih k (j + 1) _ (by omega) (by omega) (by simp; omega) (by omega), rdS l j hj, List.append_assoc]
      by_cases g : i < j
      · rw [if_pos (by omega), if_pos g, List.drop_eq_getElem_cons hj]; rfl
      · rw [if_neg (by omega), if_neg g, List.drop_eq_getElem_cons hj, show i - j = (i - (j + 1)) + 1 by omega, List.eraseIdx_cons_succ]; rfl
theorem rtake_eq (a : Int) (l : List S29) (s : List (List Int)) (i : Int) (k : Nat) (h2 : l.length ≤ 1000) (hk : l.length + 2 < k) : chamberlainref06_Take.f k a l s i = some (takeM a l s i) := by
  unfold chamberlainref06_Take.f takeM
  obtain ⟨k, rfl⟩ : ∃ m, k = m + 1 := ⟨k - 1, by omega⟩
  by_cases c : i < 0
  · rw [if_pos c, if_neg (by omega), chamberlainref06_Take.j0, if_pos rfl]
  · by_cases d : i ≥ (l.length : Int)
    · rw [if_neg c, if_neg (by omega), decide_eq_true d, chamberlainref06_Take.j0, if_pos rfl]
    · rw [if_neg c, if_pos (by omega), decide_eq_false d, chamberlainref06_Take.j0, if_neg (by simp)]
      obtain ⟨n, rfl⟩ : ∃ n : Nat, i = n := ⟨i.toNat, by omega⟩
      have := rtake_loop a l s n (by omega) h2 l.length k 0 [] (by omega) (by omega) (by simp) (by omega)
      simp only [Int.natCast_zero] at this
      rw [this, if_neg (by omega)]
      simp
/-- What is doubled. -/
def doubleM (a : Int) (l : List S29) (s : List (List Int)) (i : Int) : Int × List S29 × List (List Int) × Int :=
  if 0 ≤ i ∧ i < (l.length : Int) then (if (l.length : Int) < a then (a, l ++ [rd_T29 l i], s, 0) else (a, l, s, 10)) else (a, l, s, 1)
theorem double_eq (a : Int) (l : List S29) (s : List (List Int)) (i : Int) (h0 : 0 ≤ a) (h1 : a ≤ 1000) (h2 : l.length ≤ 1000) : net_Double.f a l s i = some (doubleM a l s i) := by
  unfold net_Double.f doubleM
  by_cases c : i < 0
  · rw [if_pos c, if_neg (by omega)]
  · by_cases d : i ≥ (l.length : Int)
    · rw [if_neg c, if_pos d, if_neg (by omega)]
    · rw [if_neg c, if_neg d, w64 (by omega) (by omega), if_pos (show 0 ≤ i ∧ i < (l.length : Int) by omega)]
      by_cases e : (l.length : Int) < a
      · rw [if_neg (by omega), if_pos (by omega), if_pos e]
      · rw [if_pos (by omega), if_neg e]
theorem rdouble_eq (a : Int) (l : List S29) (s : List (List Int)) (i : Int) (h2 : l.length ≤ 1000) : chamberlainref06_Double.f a l s i = some (doubleM a l s i) := by
  unfold chamberlainref06_Double.f doubleM
  by_cases c : i < 0
  · rw [if_pos c, if_neg (by omega)]
  · by_cases d : i ≥ (l.length : Int)
    · rw [if_neg c, if_pos d, if_neg (by omega)]
    · rw [if_neg c, if_neg d, if_pos (show 0 ≤ i ∧ i < (l.length : Int) by omega)]
      by_cases e : (l.length : Int) < a
      · rw [if_neg (by omega), if_pos (by omega), if_pos e]
      · rw [if_pos (by omega), if_neg e]
theorem send_fst (a : Int) (l : List S29) (s : List (List Int)) (t : Int) (w : List Int) : (sendM a l s t w).1 = a := by unfold sendM; split <;> rfl
theorem take_fst (a : Int) (l : List S29) (s : List (List Int)) (i : Int) : (takeM a l s i).1 = a := by unfold takeM; split <;> rfl
theorem double_fst (a : Int) (l : List S29) (s : List (List Int)) (i : Int) : (doubleM a l s i).1 = a := by unfold doubleM; split <;> (try split) <;> rfl
theorem mem_rd (l : List S29) (i : Int) (h : 0 ≤ i ∧ i < (l.length : Int)) : rd_T29 l i ∈ l := by
  obtain ⟨n, rfl⟩ : ∃ n : Nat, i = n := ⟨i.toNat, by omega⟩
  rw [rdS l n (by omega)]
  exact List.getElem_mem _
/-- The rows of a nearly small net. -/
structure Mid (l : List S29) (s : List (List Int)) : Prop where
  lg : l.length ≤ 100
  ls : s.length ≤ 400
  wg : ∀ x ∈ l, x.f1.length ≤ 100
  ws : ∀ x ∈ s, x.length ≤ 100
theorem Few.mid {l : List S29} {s : List (List Int)} (h : Few l s) : Mid l s := ⟨by have := h.lg; omega, by have := h.ls; omega, h.wg, h.ws⟩
theorem send_mid (a : Int) (l : List S29) (s : List (List Int)) (t : Int) (w : List Int) (h : Few l s) (hw : w.length ≤ 100) : Mid (sendM a l s t w).2.1 (sendM a l s t w).2.2.1 := by
  unfold sendM
  split
  · refine ⟨by have := h.lg; simp; omega, by have := h.ls; simp; omega, fun x hx => ?_, fun x hx => ?_⟩
    · rcases List.mem_append.1 hx with q | q
      · exact h.wg x q
      · rw [List.mem_singleton] at q; subst q; exact hw
    · rcases List.mem_append.1 hx with q | q
      · exact h.ws x q
      · rw [List.mem_singleton] at q; subst q; exact hw
  · exact h.mid
theorem take_mid (a : Int) (l : List S29) (s : List (List Int)) (i : Int) (h : Few l s) : Mid (takeM a l s i).2.1 (takeM a l s i).2.2.1 := by
  unfold takeM
  split
  · refine ⟨?_, h.mid.ls, fun x hx => h.wg x (List.mem_of_mem_eraseIdx hx), h.ws⟩
    have := h.lg
    have := List.length_eraseIdx_le l i.toNat
    show (l.eraseIdx i.toNat).length ≤ 100
    omega
  · exact h.mid
theorem take_word (a : Int) (l : List S29) (s : List (List Int)) (i : Int) (h : Few l s) : (takeM a l s i).2.2.2.2.1.length ≤ 100 := by
  unfold takeM
  split
  · rename_i c; exact h.wg _ (mem_rd l i c)
  · simp
theorem double_mid (a : Int) (l : List S29) (s : List (List Int)) (i : Int) (h : Few l s) : Mid (doubleM a l s i).2.1 (doubleM a l s i).2.2.1 := by
  unfold doubleM
  split
  · rename_i c
    split
    · refine ⟨by have := h.lg; simp; omega, h.mid.ls, fun x hx => ?_, h.ws⟩
      rcases List.mem_append.1 hx with q | q
      · exact h.wg x q
      · rw [List.mem_singleton] at q; subst q; exact h.wg _ (mem_rd l i c)
    · exact h.mid
  · exact h.mid
end uk
theorem nk.heap29 : Kd.Heap k29 := Kd.heap_iso _ (Kd.heap_pair (Kd.heap_int .u32) (Kd.heap_slice 26 (Kd.heap_int .u32)))
/-- What the law was handed in. -/
structure kk.Par (w W : World) (gb gg : Nat) (a0 : Int) (A1 : Option Addr) (n1 c1 : Nat) (A2 : Option Addr) (n2 c2 : Nat) (b0 : Int) (A3 : Option Addr) (n3 c3 : Nat) : Prop where
  bk : W.heap[gb]? = some (.cells #[.int .i64 a0, .slice A1 n1 c1, .slice A2 n2 c2] 25 (0, 0))
  bg : W.heap[gg]? = some (.cells #[.int .u32 b0, .slice A3 n3 c3] 29 (0, 0))
  hb : Below w.heap.size w W
theorem kk.Par.below {w W W1 : World} {gb gg : Nat} {a0 : Int} {A1 : Option Addr} {n1 c1 : Nat} {A2 : Option Addr} {n2 c2 : Nat} {b0 : Int} {A3 : Option Addr} {n3 c3 : Nat} (h : kk.Par w W gb gg a0 A1 n1 c1 A2 n2 c2 b0 A3 n3 c3) (hb : Below W.heap.size W W1) : kk.Par w W1 gb gg a0 A1 n1 c1 A2 n2 c2 b0 A3 n3 c3 :=
  ⟨blk_below h.bk hb, blk_below h.bg hb, h.hb.trans (hb.mono h.hb.size)⟩
theorem kk.Par.grown {w W W1 : World} {gb gg : Nat} {a0 : Int} {A1 : Option Addr} {n1 c1 : Nat} {A2 : Option Addr} {n2 c2 : Nat} {b0 : Int} {A3 : Option Addr} {n3 c3 : Nat} (h : kk.Par w W gb gg a0 A1 n1 c1 A2 n2 c2 b0 A3 n3 c3) (hb : Below w.heap.size w W1) (hk : ∀ k, k < W.heap.size → W1.heap[k]? = W.heap[k]?) : kk.Par w W1 gb gg a0 A1 n1 c1 A2 n2 c2 b0 A3 n3 c3 :=
  ⟨(hk _ (blk_lt h.bk)).trans h.bk, (hk _ (blk_lt h.bg)).trans h.bg, hb⟩
theorem kk.Par.moved {w W W1 : World} {gb gg g : Nat} {a0 : Int} {A1 : Option Addr} {n1 c1 : Nat} {A2 : Option Addr} {n2 c2 : Nat} {b0 : Int} {A3 : Option Addr} {n3 c3 : Nat} (h : kk.Par w W gb gg a0 A1 n1 c1 A2 n2 c2 b0 A3 n3 c3) (hb : Below w.heap.size w W1) (hk : ∀ k, k ≠ g → W1.heap[k]? = W.heap[k]?) (h1 : gb ≠ g) (h2 : gg ≠ g) : kk.Par w W1 gb gg a0 A1 n1 c1 A2 n2 c2 b0 A3 n3 c3 :=
  ⟨(hk _ h1).trans h.bk, (hk _ h2).trans h.bg, hb⟩
theorem kk.Par.far {w W : World} {gb gg g : Nat} {a0 : Int} {A1 : Option Addr} {n1 c1 : Nat} {A2 : Option Addr} {n2 c2 : Nat} {b0 : Int} {A3 : Option Addr} {n3 c3 : Nat} (h : kk.Par w W gb gg a0 A1 n1 c1 A2 n2 c2 b0 A3 n3 c3) (h1 : gb ≠ g) (h2 : gg ≠ g) (h3 : w.heap.size ≤ g) (j : Nat) (v : Value) : kk.Par w (W.setCell ⟨g, j, none⟩ v) gb gg a0 A1 n1 c1 A2 n2 c2 b0 A3 n3 c3 :=
  ⟨blk_far (p := ⟨g, j, none⟩) h.bk h1 v, blk_far (p := ⟨g, j, none⟩) h.bg h2 v, below_set (g := g) (j := j) (v := v) h.hb h3⟩
/-- The law's own net, in its box. -/
structure kk.Own (w W : World) (g go cap : Nat) (A2 : Option Addr) (c2 : Nat) (a0 : Int) (l1 : List S29) (l2 : List (List Int)) (cs : Array Value) : Prop where
  bo : W.heap[go]? = some (.cells #[.int .i64 a0, .slice (some ⟨g, 0, none⟩) l1.length cap, .slice A2 l2.length c2] 25 (0, 0))
  hq : W.heap[g]? = some (.cells cs 29 (0, 0))
  fo : Kd.F k29 W (fun k => k = g ∨ k < w.heap.size) (some ⟨g, 0, none⟩) l1.length l1
  he : kk.E k29 W (fun k => k < w.heap.size) (some ⟨g, 0, none⟩) l1.length l1
  v2 : Kd.V (Kd.slice 26 (Kd.int .u32)) 27 W 0 (fun k => k ≠ g) (.slice A2 l2.length c2) l2
theorem kk.Own.below {w W W1 : World} {g go cap : Nat} {A2 : Option Addr} {c2 : Nat} {a0 : Int} {l1 : List S29} {l2 : List (List Int)} {cs : Array Value} (h : kk.Own w W g go cap A2 c2 a0 l1 l2 cs) (hb : Below W.heap.size W W1) : kk.Own w W1 g go cap A2 c2 a0 l1 l2 cs :=
  ⟨blk_below h.bo hb, blk_below h.hq hb, Kd.F_below h.fo hb, kk.E.below h.he hb, Kd.V_below h.v2 hb⟩
/-- A net that was answered, in its box; on success it is apart from the block g. -/
structure kk.NB (W : World) (g bx : Nat) (e r1 : Int) (A1 : Option Addr) (c1 : Nat) (r2 : List S29) (A2 : Option Addr) (c2 : Nat) (r3 : List (List Int)) : Prop where
  b : W.heap[bx]? = some (.cells #[.int .i64 r1, .slice A1 r2.length c1, .slice A2 r3.length c2] 25 (0, 0))
  ne : bx ≠ g
  v : e = 0 → Kd.V k29 29 W 0 (fun k => k ≠ g) (.slice A1 r2.length c1) r2 ∧ Kd.V (Kd.slice 26 (Kd.int .u32)) 27 W 0 (fun k => k ≠ g) (.slice A2 r3.length c2) r3
theorem kk.NB.below {W W1 : World} {g bx : Nat} {e r1 : Int} {A1 : Option Addr} {c1 : Nat} {r2 : List S29} {A2 : Option Addr} {c2 : Nat} {r3 : List (List Int)} (h : kk.NB W g bx e r1 A1 c1 r2 A2 c2 r3) (hb : Below W.heap.size W W1) : kk.NB W1 g bx e r1 A1 c1 r2 A2 c2 r3 :=
  ⟨blk_below h.b hb, h.ne, fun h0 => ⟨Kd.V_below (h.v h0).1 hb, Kd.V_below (h.v h0).2 hb⟩⟩
theorem kk.NB.far {W : World} {g bx : Nat} {e r1 : Int} {A1 : Option Addr} {c1 : Nat} {r2 : List S29} {A2 : Option Addr} {c2 : Nat} {r3 : List (List Int)} (h : kk.NB W g bx e r1 A1 c1 r2 A2 c2 r3) (j : Nat) (v : Value) : kk.NB (W.setCell ⟨g, j, none⟩ v) g bx e r1 A1 c1 r2 A2 c2 r3 :=
  ⟨blk_far (p := ⟨g, j, none⟩) h.b h.ne v, h.ne, fun h0 => ⟨Kd.V_far (p := ⟨g, j, none⟩) (h.v h0).1 (fun k hk => hk) v, Kd.V_far (p := ⟨g, j, none⟩) (h.v h0).2 (fun k hk => hk) v⟩⟩
set_option maxHeartbeats 8000000 in
set_option maxRecDepth 100000 in
theorem chamberlainlaw06_NetKeeps.calls (a0_0 : Int) (A0_1 : Option Addr) (c0_1 : Nat) (l0_1 : List (S29)) (A0_2 : Option Addr) (c0_2 : Nat) (l0_2 : List (List Int)) (a1_0 : Int) (A1_1 : Option Addr) (c1_1 : Nat) (l1_1 : List Int) (a2 : Int) (r : Bool) (w : World) (hr0_1 : Kd.C k29 w A0_1 l0_1.length l0_1) (hc0_1 : l0_1.length ≤ c0_1) (hr0_2 : Kd.C (Kd.slice 26 (Kd.int .u32)) w A0_2 l0_2.length l0_2) (hc0_2 : l0_2.length ≤ c0_2) (hr1_1 : Kd.C (Kd.int .u32) w A1_1 l1_1.length l1_1) (hc1_1 : l1_1.length ≤ c1_1) (h : chamberlainlaw06_NetKeeps.f a0_0 l0_1 l0_2 a1_0 l1_1 a2 = some r) (hT0 : r = true) :
    Calls Try.prog 6 #[.agg #[.int .i64 a0_0, .slice A0_1 l0_1.length c0_1, .slice A0_2 l0_2.length c0_2], .agg #[.int .u32 a1_0, .slice A1_1 l1_1.length c1_1], .int .i64 a2] w fun e w' => e = .returned (.bool r) ∧ Below w.heap.size w w' := by
  have hT := Aside0.mk hT0
  clear hT0
  unfold chamberlainlaw06_NetKeeps.f at h
  obtain rfl := Option.some.inj h
  clear h hT
  have hu25 := Try.underlying25
  have hu29 := Try.underlying29
  have F1 := Kd.C_F nk.heap29 hr0_1
  have F2 := Kd.C_F (Kd.heap_slice 26 (Kd.heap_int .u32)) hr0_2
  have F3 := Kd.C_F (Kd.heap_int .u32) hr1_1
  have hmax := hr0_1.2.1
  have AW := Aside0.mk (uk.awake60 60 (Nat.le_refl _))
  obtain ⟨b, hf, hfit⟩ := uk.few_some a0_0 l0_1 l0_2 2000 hmax hr0_2.2.1 (Nat.le_refl _)
  have AF := Aside0.mk hf
  clear hf
  cases b with
  | false =>
    clear hfit
    go_enter Try.func6, Try.ntmps6
    go_wp2_with (first | ((with_reducible refine gate_dst (N := 3) rfl ?_); refine box_event ?hg (N := 3) ?hd (cs := #[.int .i64 a0_0, .slice A0_1 l0_1.length c0_1, .slice A0_2 l0_2.length c0_2]) (t := 25) ?hr ?_; (case hd => rfl); (case hg => rfl); (case hr => first | (go_simp; done) | (go_simp; rfl)); intro gb hgb W0 BK HB0; clear hgb) | ((with_reducible refine gate_dst (N := 4) rfl ?_); refine box_event ?hg (N := 4) ?hd (cs := #[.int .u32 a1_0, .slice A1_1 l1_1.length c1_1]) (t := 29) ?hr ?_; (case hd => rfl); (case hg => rfl); (case hr => first | (go_simp; done) | (go_simp; rfl)); intro gg hgg W00 BG hb0; clear hgg; have PP := (⟨blk_below BK hb0, BG, HB0.trans (hb0.mono HB0.size)⟩ : kk.Par w W00 gb gg a0_0 A0_1 l0_1.length c0_1 A0_2 l0_2.length c0_2 a1_0 A1_1 l1_1.length c1_1); clear BK BG HB0 hb0; have k0_ : W00.cell? ⟨gb, 0, none⟩ = some (.int .i64 a0_0) := (blk_cell PP.bk 0).trans rfl; have zk0_ := blk_frozen PP.bk 0; have k1_ : W00.cell? ⟨gb, 1, none⟩ = some (.slice A0_1 l0_1.length c0_1) := (blk_cell PP.bk 1).trans rfl; have zk1_ := blk_frozen PP.bk 1; have k2_ : W00.cell? ⟨gb, 2, none⟩ = some (.slice A0_2 l0_2.length c0_2) := (blk_cell PP.bk 2).trans rfl; have zk2_ := blk_frozen PP.bk 2; have kg0_ : W00.cell? ⟨gg, 0, none⟩ = some (.int .u32 a1_0) := (blk_cell PP.bg 0).trans rfl; have zkg0_ := blk_frozen PP.bg 0; have kg1_ : W00.cell? ⟨gg, 1, none⟩ = some (.slice A1_1 l1_1.length c1_1) := (blk_cell PP.bg 1).trans rfl; have zkg1_ := blk_frozen PP.bg 1) | (go_at_call 9; (with_reducible refine (chamberlainref06_Few.calls 2000 a0_0 _ _ l0_1 _ _ l0_2 false _ (Kd.F_now (Kd.F_below F1 PP.hb)) hc0_1 (Kd.F_now (Kd.F_below F2 PP.hb)) hc0_2 AF.out).mono ?_); rintro e W2 ⟨rfl, hb2⟩; replace PP := PP.below hb2; (try clear k0_); (try clear zk0_); (try clear k1_); (try clear zk1_); (try clear k2_); (try clear zk2_); (try clear kg0_); (try clear zkg0_); (try clear kg1_); (try clear zkg1_); (try clear kg2_); (try clear zkg2_); have k0_ : W2.cell? ⟨gb, 0, none⟩ = some (.int .i64 a0_0) := (blk_cell PP.bk 0).trans rfl; have zk0_ := blk_frozen PP.bk 0; have k1_ : W2.cell? ⟨gb, 1, none⟩ = some (.slice A0_1 l0_1.length c0_1) := (blk_cell PP.bk 1).trans rfl; have zk1_ := blk_frozen PP.bk 1; have k2_ : W2.cell? ⟨gb, 2, none⟩ = some (.slice A0_2 l0_2.length c0_2) := (blk_cell PP.bk 2).trans rfl; have zk2_ := blk_frozen PP.bk 2; have kg0_ : W2.cell? ⟨gg, 0, none⟩ = some (.int .u32 a1_0) := (blk_cell PP.bg 0).trans rfl; have zkg0_ := blk_frozen PP.bg 0; have kg1_ : W2.cell? ⟨gg, 1, none⟩ = some (.slice A1_1 l1_1.length c1_1) := (blk_cell PP.bg 1).trans rfl; have zkg1_ := blk_frozen PP.bg 1; clear hb2) | (go_at_call 8; (with_reducible refine (chamberlainlaw06_awake.calls 60 true _ AW.out).mono ?_); rintro e W1 ⟨rfl, hb1⟩; replace PP := PP.below hb1; (try clear k0_); (try clear zk0_); (try clear k1_); (try clear zk1_); (try clear k2_); (try clear zk2_); (try clear kg0_); (try clear zkg0_); (try clear kg1_); (try clear zkg1_); (try clear kg2_); (try clear zkg2_); have k0_ : W1.cell? ⟨gb, 0, none⟩ = some (.int .i64 a0_0) := (blk_cell PP.bk 0).trans rfl; have zk0_ := blk_frozen PP.bk 0; have k1_ : W1.cell? ⟨gb, 1, none⟩ = some (.slice A0_1 l0_1.length c0_1) := (blk_cell PP.bk 1).trans rfl; have zk1_ := blk_frozen PP.bk 1; have k2_ : W1.cell? ⟨gb, 2, none⟩ = some (.slice A0_2 l0_2.length c0_2) := (blk_cell PP.bk 2).trans rfl; have zk2_ := blk_frozen PP.bk 2; have kg0_ : W1.cell? ⟨gg, 0, none⟩ = some (.int .u32 a1_0) := (blk_cell PP.bg 0).trans rfl; have zkg0_ := blk_frozen PP.bg 0; have kg1_ : W1.cell? ⟨gg, 1, none⟩ = some (.slice A1_1 l1_1.length c1_1) := (blk_cell PP.bg 1).trans rfl; have zkg1_ := blk_frozen PP.bg 1; clear hb1))
    go_ret
    exact ⟨rfl, PP.hb⟩
  | true =>
  have FW := hfit rfl
  clear hfit
  have AR := Aside0.mk (uk.rright_eq a0_0 l0_1 l0_2)
  obtain ⟨b, hb⟩ : ∃ b, b = uk.rightB a0_0 l0_1 := ⟨_, rfl⟩
  rw [← hb] at AR
  cases b with
  | false =>
    clear hb FW
    go_enter Try.func6, Try.ntmps6
    go_wp2_with (first | ((with_reducible refine gate_dst (N := 3) rfl ?_); refine box_event ?hg (N := 3) ?hd (cs := #[.int .i64 a0_0, .slice A0_1 l0_1.length c0_1, .slice A0_2 l0_2.length c0_2]) (t := 25) ?hr ?_; (case hd => rfl); (case hg => rfl); (case hr => first | (go_simp; done) | (go_simp; rfl)); intro gb hgb W0 BK HB0; clear hgb) | ((with_reducible refine gate_dst (N := 4) rfl ?_); refine box_event ?hg (N := 4) ?hd (cs := #[.int .u32 a1_0, .slice A1_1 l1_1.length c1_1]) (t := 29) ?hr ?_; (case hd => rfl); (case hg => rfl); (case hr => first | (go_simp; done) | (go_simp; rfl)); intro gg hgg W00 BG hb0; clear hgg; have PP := (⟨blk_below BK hb0, BG, HB0.trans (hb0.mono HB0.size)⟩ : kk.Par w W00 gb gg a0_0 A0_1 l0_1.length c0_1 A0_2 l0_2.length c0_2 a1_0 A1_1 l1_1.length c1_1); clear BK BG HB0 hb0; have k0_ : W00.cell? ⟨gb, 0, none⟩ = some (.int .i64 a0_0) := (blk_cell PP.bk 0).trans rfl; have zk0_ := blk_frozen PP.bk 0; have k1_ : W00.cell? ⟨gb, 1, none⟩ = some (.slice A0_1 l0_1.length c0_1) := (blk_cell PP.bk 1).trans rfl; have zk1_ := blk_frozen PP.bk 1; have k2_ : W00.cell? ⟨gb, 2, none⟩ = some (.slice A0_2 l0_2.length c0_2) := (blk_cell PP.bk 2).trans rfl; have zk2_ := blk_frozen PP.bk 2; have kg0_ : W00.cell? ⟨gg, 0, none⟩ = some (.int .u32 a1_0) := (blk_cell PP.bg 0).trans rfl; have zkg0_ := blk_frozen PP.bg 0; have kg1_ : W00.cell? ⟨gg, 1, none⟩ = some (.slice A1_1 l1_1.length c1_1) := (blk_cell PP.bg 1).trans rfl; have zkg1_ := blk_frozen PP.bg 1) | (go_at_call 9; (with_reducible refine (chamberlainref06_Few.calls 2000 a0_0 _ _ l0_1 _ _ l0_2 true _ (Kd.F_now (Kd.F_below F1 PP.hb)) hc0_1 (Kd.F_now (Kd.F_below F2 PP.hb)) hc0_2 AF.out).mono ?_); rintro e W2 ⟨rfl, hb2⟩; replace PP := PP.below hb2; (try clear k0_); (try clear zk0_); (try clear k1_); (try clear zk1_); (try clear k2_); (try clear zk2_); (try clear kg0_); (try clear zkg0_); (try clear kg1_); (try clear zkg1_); (try clear kg2_); (try clear zkg2_); have k0_ : W2.cell? ⟨gb, 0, none⟩ = some (.int .i64 a0_0) := (blk_cell PP.bk 0).trans rfl; have zk0_ := blk_frozen PP.bk 0; have k1_ : W2.cell? ⟨gb, 1, none⟩ = some (.slice A0_1 l0_1.length c0_1) := (blk_cell PP.bk 1).trans rfl; have zk1_ := blk_frozen PP.bk 1; have k2_ : W2.cell? ⟨gb, 2, none⟩ = some (.slice A0_2 l0_2.length c0_2) := (blk_cell PP.bk 2).trans rfl; have zk2_ := blk_frozen PP.bk 2; have kg0_ : W2.cell? ⟨gg, 0, none⟩ = some (.int .u32 a1_0) := (blk_cell PP.bg 0).trans rfl; have zkg0_ := blk_frozen PP.bg 0; have kg1_ : W2.cell? ⟨gg, 1, none⟩ = some (.slice A1_1 l1_1.length c1_1) := (blk_cell PP.bg 1).trans rfl; have zkg1_ := blk_frozen PP.bg 1; clear hb2) | (go_at_call 11; (with_reducible refine (chamberlainref06_Right.calls a0_0 _ _ l0_1 _ _ l0_2 false _ (Kd.F_now (Kd.F_below F1 PP.hb)) hc0_1 (Kd.F_now (Kd.F_below F2 PP.hb)) hc0_2 AR.out).mono ?_); rintro e W21 ⟨rfl, hb21⟩; replace PP := PP.below hb21; (try clear k0_); (try clear zk0_); (try clear k1_); (try clear zk1_); (try clear k2_); (try clear zk2_); (try clear kg0_); (try clear zkg0_); (try clear kg1_); (try clear zkg1_); (try clear kg2_); (try clear zkg2_); have k0_ : W21.cell? ⟨gb, 0, none⟩ = some (.int .i64 a0_0) := (blk_cell PP.bk 0).trans rfl; have zk0_ := blk_frozen PP.bk 0; have k1_ : W21.cell? ⟨gb, 1, none⟩ = some (.slice A0_1 l0_1.length c0_1) := (blk_cell PP.bk 1).trans rfl; have zk1_ := blk_frozen PP.bk 1; have k2_ : W21.cell? ⟨gb, 2, none⟩ = some (.slice A0_2 l0_2.length c0_2) := (blk_cell PP.bk 2).trans rfl; have zk2_ := blk_frozen PP.bk 2; have kg0_ : W21.cell? ⟨gg, 0, none⟩ = some (.int .u32 a1_0) := (blk_cell PP.bg 0).trans rfl; have zkg0_ := blk_frozen PP.bg 0; have kg1_ : W21.cell? ⟨gg, 1, none⟩ = some (.slice A1_1 l1_1.length c1_1) := (blk_cell PP.bg 1).trans rfl; have zkg1_ := blk_frozen PP.bg 1; clear hb21) | (go_at_call 8; (with_reducible refine (chamberlainlaw06_awake.calls 60 true _ AW.out).mono ?_); rintro e W1 ⟨rfl, hb1⟩; replace PP := PP.below hb1; (try clear k0_); (try clear zk0_); (try clear k1_); (try clear zk1_); (try clear k2_); (try clear zk2_); (try clear kg0_); (try clear zkg0_); (try clear kg1_); (try clear zkg1_); (try clear kg2_); (try clear zkg2_); have k0_ : W1.cell? ⟨gb, 0, none⟩ = some (.int .i64 a0_0) := (blk_cell PP.bk 0).trans rfl; have zk0_ := blk_frozen PP.bk 0; have k1_ : W1.cell? ⟨gb, 1, none⟩ = some (.slice A0_1 l0_1.length c0_1) := (blk_cell PP.bk 1).trans rfl; have zk1_ := blk_frozen PP.bk 1; have k2_ : W1.cell? ⟨gb, 2, none⟩ = some (.slice A0_2 l0_2.length c0_2) := (blk_cell PP.bk 2).trans rfl; have zk2_ := blk_frozen PP.bk 2; have kg0_ : W1.cell? ⟨gg, 0, none⟩ = some (.int .u32 a1_0) := (blk_cell PP.bg 0).trans rfl; have zkg0_ := blk_frozen PP.bg 0; have kg1_ : W1.cell? ⟨gg, 1, none⟩ = some (.slice A1_1 l1_1.length c1_1) := (blk_cell PP.bg 1).trans rfl; have zkg1_ := blk_frozen PP.bg 1; clear hb1))
    go_ret
    exact ⟨rfl, PP.hb⟩
  | true =>
  obtain ⟨g1, g2, g3⟩ := (uk.rightB_iff a0_0 l0_1).1 hb.symm
  clear hb
  by_cases h100 : l1_1.length ≤ 100
  rotate_left
  · have q : decide ((l1_1.length : Int) > 100) = true := decide_eq_true (by omega)
    have q2 : decide (100 < l1_1.length) = true := decide_eq_true (by omega)
    clear h100 FW
    go_enter Try.func6, Try.ntmps6
    go_wp2_with (first | ((with_reducible refine gate_dst (N := 3) rfl ?_); refine box_event ?hg (N := 3) ?hd (cs := #[.int .i64 a0_0, .slice A0_1 l0_1.length c0_1, .slice A0_2 l0_2.length c0_2]) (t := 25) ?hr ?_; (case hd => rfl); (case hg => rfl); (case hr => first | (go_simp; done) | (go_simp; rfl)); intro gb hgb W0 BK HB0; clear hgb) | ((with_reducible refine gate_dst (N := 4) rfl ?_); refine box_event ?hg (N := 4) ?hd (cs := #[.int .u32 a1_0, .slice A1_1 l1_1.length c1_1]) (t := 29) ?hr ?_; (case hd => rfl); (case hg => rfl); (case hr => first | (go_simp; done) | (go_simp; rfl)); intro gg hgg W00 BG hb0; clear hgg; have PP := (⟨blk_below BK hb0, BG, HB0.trans (hb0.mono HB0.size)⟩ : kk.Par w W00 gb gg a0_0 A0_1 l0_1.length c0_1 A0_2 l0_2.length c0_2 a1_0 A1_1 l1_1.length c1_1); clear BK BG HB0 hb0; have k0_ : W00.cell? ⟨gb, 0, none⟩ = some (.int .i64 a0_0) := (blk_cell PP.bk 0).trans rfl; have zk0_ := blk_frozen PP.bk 0; have k1_ : W00.cell? ⟨gb, 1, none⟩ = some (.slice A0_1 l0_1.length c0_1) := (blk_cell PP.bk 1).trans rfl; have zk1_ := blk_frozen PP.bk 1; have k2_ : W00.cell? ⟨gb, 2, none⟩ = some (.slice A0_2 l0_2.length c0_2) := (blk_cell PP.bk 2).trans rfl; have zk2_ := blk_frozen PP.bk 2; have kg0_ : W00.cell? ⟨gg, 0, none⟩ = some (.int .u32 a1_0) := (blk_cell PP.bg 0).trans rfl; have zkg0_ := blk_frozen PP.bg 0; have kg1_ : W00.cell? ⟨gg, 1, none⟩ = some (.slice A1_1 l1_1.length c1_1) := (blk_cell PP.bg 1).trans rfl; have zkg1_ := blk_frozen PP.bg 1) | (go_at_call 9; (with_reducible refine (chamberlainref06_Few.calls 2000 a0_0 _ _ l0_1 _ _ l0_2 true _ (Kd.F_now (Kd.F_below F1 PP.hb)) hc0_1 (Kd.F_now (Kd.F_below F2 PP.hb)) hc0_2 AF.out).mono ?_); rintro e W2 ⟨rfl, hb2⟩; replace PP := PP.below hb2; (try clear k0_); (try clear zk0_); (try clear k1_); (try clear zk1_); (try clear k2_); (try clear zk2_); (try clear kg0_); (try clear zkg0_); (try clear kg1_); (try clear zkg1_); (try clear kg2_); (try clear zkg2_); have k0_ : W2.cell? ⟨gb, 0, none⟩ = some (.int .i64 a0_0) := (blk_cell PP.bk 0).trans rfl; have zk0_ := blk_frozen PP.bk 0; have k1_ : W2.cell? ⟨gb, 1, none⟩ = some (.slice A0_1 l0_1.length c0_1) := (blk_cell PP.bk 1).trans rfl; have zk1_ := blk_frozen PP.bk 1; have k2_ : W2.cell? ⟨gb, 2, none⟩ = some (.slice A0_2 l0_2.length c0_2) := (blk_cell PP.bk 2).trans rfl; have zk2_ := blk_frozen PP.bk 2; have kg0_ : W2.cell? ⟨gg, 0, none⟩ = some (.int .u32 a1_0) := (blk_cell PP.bg 0).trans rfl; have zkg0_ := blk_frozen PP.bg 0; have kg1_ : W2.cell? ⟨gg, 1, none⟩ = some (.slice A1_1 l1_1.length c1_1) := (blk_cell PP.bg 1).trans rfl; have zkg1_ := blk_frozen PP.bg 1; clear hb2) | (go_at_call 11; (with_reducible refine (chamberlainref06_Right.calls a0_0 _ _ l0_1 _ _ l0_2 true _ (Kd.F_now (Kd.F_below F1 PP.hb)) hc0_1 (Kd.F_now (Kd.F_below F2 PP.hb)) hc0_2 AR.out).mono ?_); rintro e W21 ⟨rfl, hb21⟩; replace PP := PP.below hb21; (try clear k0_); (try clear zk0_); (try clear k1_); (try clear zk1_); (try clear k2_); (try clear zk2_); (try clear kg0_); (try clear zkg0_); (try clear kg1_); (try clear zkg1_); (try clear kg2_); (try clear zkg2_); have k0_ : W21.cell? ⟨gb, 0, none⟩ = some (.int .i64 a0_0) := (blk_cell PP.bk 0).trans rfl; have zk0_ := blk_frozen PP.bk 0; have k1_ : W21.cell? ⟨gb, 1, none⟩ = some (.slice A0_1 l0_1.length c0_1) := (blk_cell PP.bk 1).trans rfl; have zk1_ := blk_frozen PP.bk 1; have k2_ : W21.cell? ⟨gb, 2, none⟩ = some (.slice A0_2 l0_2.length c0_2) := (blk_cell PP.bk 2).trans rfl; have zk2_ := blk_frozen PP.bk 2; have kg0_ : W21.cell? ⟨gg, 0, none⟩ = some (.int .u32 a1_0) := (blk_cell PP.bg 0).trans rfl; have zkg0_ := blk_frozen PP.bg 0; have kg1_ : W21.cell? ⟨gg, 1, none⟩ = some (.slice A1_1 l1_1.length c1_1) := (blk_cell PP.bg 1).trans rfl; have zkg1_ := blk_frozen PP.bg 1; clear hb21) | (go_at_call 8; (with_reducible refine (chamberlainlaw06_awake.calls 60 true _ AW.out).mono ?_); rintro e W1 ⟨rfl, hb1⟩; replace PP := PP.below hb1; (try clear k0_); (try clear zk0_); (try clear k1_); (try clear zk1_); (try clear k2_); (try clear zk2_); (try clear kg0_); (try clear zkg0_); (try clear kg1_); (try clear zkg1_); (try clear kg2_); (try clear zkg2_); have k0_ : W1.cell? ⟨gb, 0, none⟩ = some (.int .i64 a0_0) := (blk_cell PP.bk 0).trans rfl; have zk0_ := blk_frozen PP.bk 0; have k1_ : W1.cell? ⟨gb, 1, none⟩ = some (.slice A0_1 l0_1.length c0_1) := (blk_cell PP.bk 1).trans rfl; have zk1_ := blk_frozen PP.bk 1; have k2_ : W1.cell? ⟨gb, 2, none⟩ = some (.slice A0_2 l0_2.length c0_2) := (blk_cell PP.bk 2).trans rfl; have zk2_ := blk_frozen PP.bk 2; have kg0_ : W1.cell? ⟨gg, 0, none⟩ = some (.int .u32 a1_0) := (blk_cell PP.bg 0).trans rfl; have zkg0_ := blk_frozen PP.bg 0; have kg1_ : W1.cell? ⟨gg, 1, none⟩ = some (.slice A1_1 l1_1.length c1_1) := (blk_cell PP.bg 1).trans rfl; have zkg1_ := blk_frozen PP.bg 1; clear hb1))
    go_ret
    exact ⟨rfl, PP.hb⟩
  have q : decide ((l1_1.length : Int) > 100) = false := decide_eq_false (by omega)
  have q2 : decide (100 < l1_1.length) = false := decide_eq_false (by omega)
  have f1 : l0_1.length ≤ 64 := FW.lg
  have f2 : l0_2.length ≤ 300 := FW.ls
  obtain ⟨ra1, ra2, ra3, ra4, hsa⟩ : ∃ r1 r2 r3 r4, uk.sendM a0_0 l0_1 l0_2 a1_0 l1_1 = (r1, r2, r3, r4) := ⟨_, _, _, _, rfl⟩
  obtain ⟨rb1, rb2, rb3, rb4, rb5, rb6, hsb⟩ : ∃ r1 r2 r3 r4 r5 r6, uk.takeM a0_0 l0_1 l0_2 a2 = (r1, r2, r3, r4, r5, r6) := ⟨_, _, _, _, _, _, rfl⟩
  obtain ⟨rc1, rc2, rc3, rc4, hsc⟩ : ∃ r1 r2 r3 r4, uk.doubleM a0_0 l0_1 l0_2 a2 = (r1, r2, r3, r4) := ⟨_, _, _, _, rfl⟩
  have SM := uk.send_mid a0_0 l0_1 l0_2 a1_0 l1_1 FW h100
  have TM := uk.take_mid a0_0 l0_1 l0_2 a2 FW
  have DM := uk.double_mid a0_0 l0_1 l0_2 a2 FW
  rw [hsa] at SM
  rw [hsb] at TM
  rw [hsc] at DM
  have AA := Aside0.mk (show net_Send.f a0_0 l0_1 l0_2 a1_0 l1_1 = some (ra1, ra2, ra3, ra4) by rw [uk.send_eq _ _ _ _ _ g1 (by omega) (by omega) (by omega), hsa])
  have AX := Aside0.mk (show chamberlainref06_Send.f a0_0 l0_1 l0_2 a1_0 l1_1 = some (ra1, ra2, ra3, ra4) by rw [uk.rsend_eq _ _ _ _ _ (by omega) (by omega), hsa])
  have AB := Aside0.mk (show net_Take.f a0_0 l0_1 l0_2 a2 = some (rb1, rb2, rb3, rb4, rb5, rb6) by rw [uk.take_eq _ _ _ _ (by omega), hsb])
  have AY := Aside0.mk (show chamberlainref06_Take.f 3000 a0_0 l0_1 l0_2 a2 = some (rb1, rb2, rb3, rb4, rb5, rb6) by rw [uk.rtake_eq _ _ _ _ _ (by omega) (by omega), hsb])
  have AC := Aside0.mk (show net_Double.f a0_0 l0_1 l0_2 a2 = some (rc1, rc2, rc3, rc4) by rw [uk.double_eq _ _ _ _ g1 (by omega) (by omega), hsc])
  have AZ := Aside0.mk (show chamberlainref06_Double.f a0_0 l0_1 l0_2 a2 = some (rc1, rc2, rc3, rc4) by rw [uk.rdouble_eq _ _ _ _ (by omega), hsc])
  have ASn := Aside0.mk (uk.same_self a0_0 l0_1 l0_2 3000 FW.mid.lg FW.mid.ls FW.mid.wg FW.mid.ws (by omega))
  have ASa := Aside0.mk (uk.same_self ra1 ra2 ra3 3000 SM.lg SM.ls SM.wg SM.ws (by omega))
  have ASb := Aside0.mk (uk.same_self rb1 rb2 rb3 3000 TM.lg TM.ls TM.wg TM.ws (by omega))
  have ASc := Aside0.mk (uk.same_self rc1 rc2 rc3 3000 DM.lg DM.ls DM.wg DM.ws (by omega))
  have AO := Aside0.mk (uk.one_self 0 ([] : List Int) 300 (by simp) (by omega))
  clear SM TM DM hsa hsb hsc FW g1 g2 g3
  obtain ⟨n, hn⟩ : ∃ n : Nat, n = l0_1.length + 2 := ⟨_, rfl⟩
  have er : (List.replicate ((l0_1.length : Int) + 2).toNat ([.int .u32 0, .slice none 0 0] : List Value)).length = n := by simp; omega
  have HN := Aside0.mk hn
  have hln : l0_1.length ≤ n := by omega
  have hlt : l0_1.length < n := by omega
  have hn62 : n ≤ 66 := by omega
  have hnn : ((l0_1.length : Int) + 2).toNat = n := by omega
  have pz1 : (0 ≤ (l0_1.length : Int)) = True := eq_true (by omega)
  have pz2 : ((l0_1.length : Int) < (n : Int)) = True := eq_true (by omega)
  clear hn
  have w33 : wrap64 ((l0_1.length : Int) + 2) = (l0_1.length : Int) + 2 := uk.w64 (by omega) (by omega)
  have hz9 : k29.sz = 2 := rfl
  go_enter Try.func6, Try.ntmps6
  go_wp2_with (first | ((with_reducible refine gate_dst (N := 3) rfl ?_); refine box_event ?hg (N := 3) ?hd (cs := #[.int .i64 a0_0, .slice A0_1 l0_1.length c0_1, .slice A0_2 l0_2.length c0_2]) (t := 25) ?hr ?_; (case hd => rfl); (case hg => rfl); (case hr => first | (go_simp; done) | (go_simp; rfl)); intro gb hgb W0 BK HB0; clear hgb) | ((with_reducible refine gate_dst (N := 4) rfl ?_); refine box_event ?hg (N := 4) ?hd (cs := #[.int .u32 a1_0, .slice A1_1 l1_1.length c1_1]) (t := 29) ?hr ?_; (case hd => rfl); (case hg => rfl); (case hr => first | (go_simp; done) | (go_simp; rfl)); intro gg hgg W00 BG hb0; clear hgg; have PP := (⟨blk_below BK hb0, BG, HB0.trans (hb0.mono HB0.size)⟩ : kk.Par w W00 gb gg a0_0 A0_1 l0_1.length c0_1 A0_2 l0_2.length c0_2 a1_0 A1_1 l1_1.length c1_1); clear BK BG HB0 hb0; have k0_ : W00.cell? ⟨gb, 0, none⟩ = some (.int .i64 a0_0) := (blk_cell PP.bk 0).trans rfl; have zk0_ := blk_frozen PP.bk 0; have k1_ : W00.cell? ⟨gb, 1, none⟩ = some (.slice A0_1 l0_1.length c0_1) := (blk_cell PP.bk 1).trans rfl; have zk1_ := blk_frozen PP.bk 1; have k2_ : W00.cell? ⟨gb, 2, none⟩ = some (.slice A0_2 l0_2.length c0_2) := (blk_cell PP.bk 2).trans rfl; have zk2_ := blk_frozen PP.bk 2; have kg0_ : W00.cell? ⟨gg, 0, none⟩ = some (.int .u32 a1_0) := (blk_cell PP.bg 0).trans rfl; have zkg0_ := blk_frozen PP.bg 0; have kg1_ : W00.cell? ⟨gg, 1, none⟩ = some (.slice A1_1 l1_1.length c1_1) := (blk_cell PP.bg 1).trans rfl; have zkg1_ := blk_frozen PP.bg 1) | (go_at_call 9; (with_reducible refine (chamberlainref06_Few.calls 2000 a0_0 _ _ l0_1 _ _ l0_2 true _ (Kd.F_now (Kd.F_below F1 PP.hb)) hc0_1 (Kd.F_now (Kd.F_below F2 PP.hb)) hc0_2 AF.out).mono ?_); rintro e W2 ⟨rfl, hb2⟩; replace PP := PP.below hb2; (try clear k0_); (try clear zk0_); (try clear k1_); (try clear zk1_); (try clear k2_); (try clear zk2_); (try clear kg0_); (try clear zkg0_); (try clear kg1_); (try clear zkg1_); (try clear kg2_); (try clear zkg2_); have k0_ : W2.cell? ⟨gb, 0, none⟩ = some (.int .i64 a0_0) := (blk_cell PP.bk 0).trans rfl; have zk0_ := blk_frozen PP.bk 0; have k1_ : W2.cell? ⟨gb, 1, none⟩ = some (.slice A0_1 l0_1.length c0_1) := (blk_cell PP.bk 1).trans rfl; have zk1_ := blk_frozen PP.bk 1; have k2_ : W2.cell? ⟨gb, 2, none⟩ = some (.slice A0_2 l0_2.length c0_2) := (blk_cell PP.bk 2).trans rfl; have zk2_ := blk_frozen PP.bk 2; have kg0_ : W2.cell? ⟨gg, 0, none⟩ = some (.int .u32 a1_0) := (blk_cell PP.bg 0).trans rfl; have zkg0_ := blk_frozen PP.bg 0; have kg1_ : W2.cell? ⟨gg, 1, none⟩ = some (.slice A1_1 l1_1.length c1_1) := (blk_cell PP.bg 1).trans rfl; have zkg1_ := blk_frozen PP.bg 1; clear hb2) | (go_at_call 11; (with_reducible refine (chamberlainref06_Right.calls a0_0 _ _ l0_1 _ _ l0_2 true _ (Kd.F_now (Kd.F_below F1 PP.hb)) hc0_1 (Kd.F_now (Kd.F_below F2 PP.hb)) hc0_2 AR.out).mono ?_); rintro e W21 ⟨rfl, hb21⟩; replace PP := PP.below hb21; (try clear k0_); (try clear zk0_); (try clear k1_); (try clear zk1_); (try clear k2_); (try clear zk2_); (try clear kg0_); (try clear zkg0_); (try clear kg1_); (try clear zkg1_); (try clear kg2_); (try clear zkg2_); have k0_ : W21.cell? ⟨gb, 0, none⟩ = some (.int .i64 a0_0) := (blk_cell PP.bk 0).trans rfl; have zk0_ := blk_frozen PP.bk 0; have k1_ : W21.cell? ⟨gb, 1, none⟩ = some (.slice A0_1 l0_1.length c0_1) := (blk_cell PP.bk 1).trans rfl; have zk1_ := blk_frozen PP.bk 1; have k2_ : W21.cell? ⟨gb, 2, none⟩ = some (.slice A0_2 l0_2.length c0_2) := (blk_cell PP.bk 2).trans rfl; have zk2_ := blk_frozen PP.bk 2; have kg0_ : W21.cell? ⟨gg, 0, none⟩ = some (.int .u32 a1_0) := (blk_cell PP.bg 0).trans rfl; have zkg0_ := blk_frozen PP.bg 0; have kg1_ : W21.cell? ⟨gg, 1, none⟩ = some (.slice A1_1 l1_1.length c1_1) := (blk_cell PP.bg 1).trans rfl; have zkg1_ := blk_frozen PP.bg 1; clear hb21) | (go_at_call 8; (with_reducible refine (chamberlainlaw06_awake.calls 60 true _ AW.out).mono ?_); rintro e W1 ⟨rfl, hb1⟩; replace PP := PP.below hb1; (try clear k0_); (try clear zk0_); (try clear k1_); (try clear zk1_); (try clear k2_); (try clear zk2_); (try clear kg0_); (try clear zkg0_); (try clear kg1_); (try clear zkg1_); (try clear kg2_); (try clear zkg2_); have k0_ : W1.cell? ⟨gb, 0, none⟩ = some (.int .i64 a0_0) := (blk_cell PP.bk 0).trans rfl; have zk0_ := blk_frozen PP.bk 0; have k1_ : W1.cell? ⟨gb, 1, none⟩ = some (.slice A0_1 l0_1.length c0_1) := (blk_cell PP.bk 1).trans rfl; have zk1_ := blk_frozen PP.bk 1; have k2_ : W1.cell? ⟨gb, 2, none⟩ = some (.slice A0_2 l0_2.length c0_2) := (blk_cell PP.bk 2).trans rfl; have zk2_ := blk_frozen PP.bk 2; have kg0_ : W1.cell? ⟨gg, 0, none⟩ = some (.int .u32 a1_0) := (blk_cell PP.bg 0).trans rfl; have zkg0_ := blk_frozen PP.bg 0; have kg1_ : W1.cell? ⟨gg, 1, none⟩ = some (.slice A1_1 l1_1.length c1_1) := (blk_cell PP.bg 1).trans rfl; have zkg1_ := blk_frozen PP.bg 1; clear hb1) | ((with_reducible refine gate_dst (N := 47) rfl ?_); refine Kd.R_make (Kd.raw 2) w.heap.size 29 rfl (N := 47) rfl 22 _ _ rfl ((l0_1.length : Int) + 2) ?hx ?hy Try.underlying22 (.agg #[(.int .u32 0), (.slice none 0 0)]) 32 info29 rfl (by decide) (by omega) [.int .u32 0, .slice none 0 0] (ok := fun _ => True) (okp := fun _ => True) ⟨rfl, rfl, by decide⟩ (fun _ hk => hk) trivial (by omega) (by omega) PP.hb PP.hb.size ?_; (case hx => first | rfl | (go_simp; done) | (go_simp; rfl)); (case hy => first | rfl | (go_simp; done) | (go_simp; rfl)); intro v1 W3 hR HB3 hgr hat; obtain ⟨g, cap, cur, hv, hg1, hg2, hg3, hg4, hh, hg5, hg6⟩ := kk.open_ hR (by have := HN.out; rw [er]; omega); rw [er] at hv hg3; subst hv; have hne : gb ≠ g := (by obtain ⟨b, e, hb⟩ := hat; have e' : g = b := (by simpa [Value.ownBlock] using e); have := blk_lt PP.bk; omega); have hneg : gg ≠ g := (by obtain ⟨b, e, hb⟩ := hat; have e' : g = b := (by simpa [Value.ownBlock] using e); have := blk_lt PP.bg; omega); replace PP := PP.grown HB3 (fun k hk => hgr.block k hk (by simp)); obtain ⟨olds, ho1, ho2, ho3, ho4, ho5⟩ := nrow.olds (Kd.F_below F1 HB3) (by decide); clear hgr hat hR; (try clear k0_); (try clear zk0_); (try clear k1_); (try clear zk1_); (try clear k2_); (try clear zk2_); (try clear kg0_); (try clear zkg0_); (try clear kg1_); (try clear zkg1_); (try clear kg2_); (try clear zkg2_); have k0_ : W3.cell? ⟨gb, 0, none⟩ = some (.int .i64 a0_0) := (blk_cell PP.bk 0).trans rfl; have zk0_ := blk_frozen PP.bk 0; have k1_ : W3.cell? ⟨gb, 1, none⟩ = some (.slice A0_1 l0_1.length c0_1) := (blk_cell PP.bk 1).trans rfl; have zk1_ := blk_frozen PP.bk 1; have k2_ : W3.cell? ⟨gb, 2, none⟩ = some (.slice A0_2 l0_2.length c0_2) := (blk_cell PP.bk 2).trans rfl; have zk2_ := blk_frozen PP.bk 2; have kg0_ : W3.cell? ⟨gg, 0, none⟩ = some (.int .u32 a1_0) := (blk_cell PP.bg 0).trans rfl; have zkg0_ := blk_frozen PP.bg 0; have kg1_ : W3.cell? ⟨gg, 1, none⟩ = some (.slice A1_1 l1_1.length c1_1) := (blk_cell PP.bg 1).trans rfl; have zkg1_ := blk_frozen PP.bg 1) | ((with_reducible refine gate_builtin (b := .copy) (xs := #[.tmp 48, .tmp 50]) rfl ?_); refine kc.wp rfl (.tmp 48) (.tmp 50) 22 22 29 rfl 2 g n cap A0_1 l0_1.length c0_1 rfl rfl cur.toList 29 olds Try.underlying22 (by kernel_rfl) (by simpa using hh) (by rw [ho1, hz9]; congr 1; exact (Nat.min_eq_left (by have := HN.out; omega)).symm) (kk.src ho1 ho2 ho3) (by rw [ho1, hz9, show cur.toList.length = cur.size from by simp, hg5]; exact Nat.mul_le_mul_right _ (Nat.le_trans hln hg3)) ho5 w.heap.size w HB3 hg1 ?_; intro W4 hq HB hoth; replace PP := PP.moved HB hoth hne hneg; have FO := kk.own HB3 HB hq ho1 ho4 hmax; have HE := kk.ownE HB3 HB hq ho1 ho4 hmax; have hzero := kk.rest (l := l0_1.length) (sz := 2) (by rw [ho1, hz9]) (zs := [.int .u32 0, .slice none 0 0]) (hg6 l0_1.length _ (by rw [List.getElem?_replicate, if_pos (by rw [hnn]; exact hlt)])); obtain ⟨cs4, hcs4⟩ : ∃ c, c = (olds ++ cur.toList.drop olds.length).toArray := ⟨_, rfl⟩; have hs4 : cs4.size = cap * 2 := (by rw [hcs4, List.size_toArray, List.length_append, List.length_drop, show cur.toList.length = cur.size from (by simp), hg5, Nat.add_sub_cancel' (by rw [ho1, hz9]; exact Nat.mul_le_mul_right _ (Nat.le_trans hln hg3))]); rw [← hcs4] at hq hzero; clear hcs4 hoth hh ho1 ho2 ho3 ho4 ho5 hg5 hg6 HB3 HB; have HCut := kk.cut 22 g cap n l0_1.length 2 (by kernel_rfl) (fun W => by kernel_rfl) hln hg3; have hgs := blk_lt hq; (try clear k0_); (try clear zk0_); (try clear k1_); (try clear zk1_); (try clear k2_); (try clear zk2_); (try clear kg0_); (try clear zkg0_); (try clear kg1_); (try clear zkg1_); (try clear kg2_); (try clear zkg2_); have k0_ : W4.cell? ⟨gb, 0, none⟩ = some (.int .i64 a0_0) := (blk_cell PP.bk 0).trans rfl; have zk0_ := blk_frozen PP.bk 0; have k1_ : W4.cell? ⟨gb, 1, none⟩ = some (.slice A0_1 l0_1.length c0_1) := (blk_cell PP.bk 1).trans rfl; have zk1_ := blk_frozen PP.bk 1; have k2_ : W4.cell? ⟨gb, 2, none⟩ = some (.slice A0_2 l0_2.length c0_2) := (blk_cell PP.bk 2).trans rfl; have zk2_ := blk_frozen PP.bk 2; have kg0_ : W4.cell? ⟨gg, 0, none⟩ = some (.int .u32 a1_0) := (blk_cell PP.bg 0).trans rfl; have zkg0_ := blk_frozen PP.bg 0; have kg1_ : W4.cell? ⟨gg, 1, none⟩ = some (.slice A1_1 l1_1.length c1_1) := (blk_cell PP.bg 1).trans rfl; have zkg1_ := blk_frozen PP.bg 1) | ((with_reducible refine gate_dst (N := 8) rfl ?_); refine box_event ?hg (N := 8) ?hd (cs := #[.int .i64 0, .slice none 0 0, .slice none 0 0]) (t := 25) ?hr ?_; (case hd => rfl); (case hg => rfl); (case hr => first | (go_simp; done) | (go_simp; rfl)); intro go hgo W5 Bo hb_; have wgo : W4.heap.size ≤ go := Nat.le_of_eq hgo.symm; have HC : Below W4.heap.size W4 W5 := hb_; clear hgo hb_; have po0_ : W5.cell? ⟨go, 0, none⟩ = some (.int .i64 0) := (blk_cell Bo 0).trans rfl; have zpo0_ := blk_frozen Bo 0; have po1_ : W5.cell? ⟨go, 1, none⟩ = some (.slice none 0 0) := (blk_cell Bo 1).trans rfl; have zpo1_ := blk_frozen Bo 1; have po2_ : W5.cell? ⟨go, 2, none⟩ = some (.slice none 0 0) := (blk_cell Bo 2).trans rfl; have zpo2_ := blk_frozen Bo 2) | ((with_reducible refine gate_store (t := 25) (p := 8) rfl ?_); refine store_event (t := 25) (p := 8) (v := ?vo8_) (w1 := (((W5.setCell ⟨go, 0, none⟩ (.int .i64 a0_0)).setCell ⟨go, 1, none⟩ (.slice A0_1 l0_1.length c0_1)).setCell ⟨go, 2, none⟩ (.slice A0_2 l0_2.length c0_2))) ?hg ?ho ?hn ?hr ?_; (case ho => rfl); (case hg => rfl); (case hn => rfl); (case hr => first | (go_simp; done) | (go_simp; rfl)); intro W6 hw; have B_ := (by rw [hw]; exact bp3_ Bo : W6.heap[go]? = some (.cells #[.int .i64 a0_0, .slice A0_1 l0_1.length c0_1, .slice A0_2 l0_2.length c0_2] 25 (0, 0))); have HC_ := (by rw [hw]; exact (below_set (below_set (below_set HC wgo) wgo) wgo) : Below W4.heap.size W4 W6); clear hw HC Bo; have HC := HC_; have Bo := B_; clear HC_ B_; (try clear po0_); (try clear zpo0_); (try clear po1_); (try clear zpo1_); (try clear po2_); (try clear zpo2_); replace PP := PP; (try clear k0_); (try clear zk0_); (try clear k1_); (try clear zk1_); (try clear k2_); (try clear zk2_); (try clear kg0_); (try clear zkg0_); (try clear kg1_); (try clear zkg1_); (try clear kg2_); (try clear zkg2_); have k0_ : W6.cell? ⟨gb, 0, none⟩ = some (.int .i64 a0_0) := (blk_cell (blk_below PP.bk HC) 0).trans rfl; have zk0_ := blk_frozen (blk_below PP.bk HC) 0; have k1_ : W6.cell? ⟨gb, 1, none⟩ = some (.slice A0_1 l0_1.length c0_1) := (blk_cell (blk_below PP.bk HC) 1).trans rfl; have zk1_ := blk_frozen (blk_below PP.bk HC) 1; have k2_ : W6.cell? ⟨gb, 2, none⟩ = some (.slice A0_2 l0_2.length c0_2) := (blk_cell (blk_below PP.bk HC) 2).trans rfl; have zk2_ := blk_frozen (blk_below PP.bk HC) 2; have ko0_ : W6.cell? ⟨go, 0, none⟩ = some (.int .i64 a0_0) := (blk_cell Bo 0).trans rfl; have zko0_ := blk_frozen Bo 0; have ko1_ : W6.cell? ⟨go, 1, none⟩ = some (.slice A0_1 l0_1.length c0_1) := (blk_cell Bo 1).trans rfl; have zko1_ := blk_frozen Bo 1; have ko2_ : W6.cell? ⟨go, 2, none⟩ = some (.slice A0_2 l0_2.length c0_2) := (blk_cell Bo 2).trans rfl; have zko2_ := blk_frozen Bo 2) | ((with_reducible refine gate_store (t := 22) (p := 58) rfl ?_); refine store_event (t := 22) (p := 58) (v := ?vo58_) (w1 := W6.setCell ⟨go, 1, none⟩ (.slice (some ⟨g, 0, none⟩) l0_1.length cap)) ?hg ?ho ?hn ?hr ?_; (case ho => rfl); (case hg => rfl); (case hn => rfl); (case hr => first | (go_simp; done) | (go_simp; rfl)); intro W7 hw; have B_ := (by rw [hw]; exact blk_put (cs := #[.int .i64 a0_0, .slice A0_1 l0_1.length c0_1, .slice A0_2 l0_2.length c0_2]) (cs' := #[.int .i64 a0_0, .slice (some ⟨g, 0, none⟩) l0_1.length cap, .slice A0_2 l0_2.length c0_2]) Bo 1 _ rfl : W7.heap[go]? = some (.cells #[.int .i64 a0_0, .slice (some ⟨g, 0, none⟩) l0_1.length cap, .slice A0_2 l0_2.length c0_2] 25 (0, 0))); have HC_ := (by rw [hw]; exact below_set HC wgo : Below W4.heap.size W4 W7); clear hw HC Bo; have HC := HC_; have Bo := B_; clear HC_ B_; (try clear k0_); (try clear zk0_); (try clear k1_); (try clear zk1_); (try clear k2_); (try clear zk2_); (try clear kg0_); (try clear zkg0_); (try clear kg1_); (try clear zkg1_); (try clear kg2_); (try clear zkg2_); (try clear ko0_); (try clear zko0_); (try clear ko1_); (try clear zko1_); (try clear ko2_); (try clear zko2_); have k0_ : W7.cell? ⟨gb, 0, none⟩ = some (.int .i64 a0_0) := (blk_cell (blk_below PP.bk HC) 0).trans rfl; have zk0_ := blk_frozen (blk_below PP.bk HC) 0; have k1_ : W7.cell? ⟨gb, 1, none⟩ = some (.slice A0_1 l0_1.length c0_1) := (blk_cell (blk_below PP.bk HC) 1).trans rfl; have zk1_ := blk_frozen (blk_below PP.bk HC) 1; have k2_ : W7.cell? ⟨gb, 2, none⟩ = some (.slice A0_2 l0_2.length c0_2) := (blk_cell (blk_below PP.bk HC) 2).trans rfl; have zk2_ := blk_frozen (blk_below PP.bk HC) 2; have ko0_ : W7.cell? ⟨go, 0, none⟩ = some (.int .i64 a0_0) := (blk_cell Bo 0).trans rfl; have zko0_ := blk_frozen Bo 0; have ko1_ : W7.cell? ⟨go, 1, none⟩ = some (.slice (some ⟨g, 0, none⟩) l0_1.length cap) := (blk_cell Bo 1).trans rfl; have zko1_ := blk_frozen Bo 1; have ko2_ : W7.cell? ⟨go, 2, none⟩ = some (.slice A0_2 l0_2.length c0_2) := (blk_cell Bo 2).trans rfl; have zko2_ := blk_frozen Bo 2) | ((with_reducible refine gate_dst (N := 59) rfl ?_); refine Kd.N_lit (Kd.slice 26 (Kd.int .u32)) _ 27 ?hg (N' := 59) ?hd (xs := ([] : List (List Int))) (inner := []) (ok := fun k => k ≠ g ∧ k ≠ go) (okp := fun _ => False) ?hr ?hp (fun _ hk => hk.elim) ⟨(by have := HC.size; omega), (by have := blk_lt Bo; omega)⟩ (Below.refl _ _) (Nat.le_refl _) (by simp) ?_; (case hd => rfl); (case hg => rfl); (case hr => first | (go_simp; done) | (go_simp; rfl)); (case hp => exact (Reps.none _ _)); intro v59 W8 hN8 hb8 hg_ hnew8; clear hg_; have ho8 : (∃ b, v59.ownBlock = some b ∧ go < b) := (hnew8.elim fun b hb => ⟨b, hb.1, Nat.lt_of_lt_of_le (blk_lt Bo) hb.2⟩); clear hnew8; replace hN8 := Kd.N_lower hN8 HC.size; replace HC := HC.trans (hb8.mono HC.size); replace Bo := blk_below Bo hb8; clear hb8; (try clear k0_); (try clear zk0_); (try clear k1_); (try clear zk1_); (try clear k2_); (try clear zk2_); (try clear kg0_); (try clear zkg0_); (try clear kg1_); (try clear zkg1_); (try clear kg2_); (try clear zkg2_); (try clear ko0_); (try clear zko0_); (try clear ko1_); (try clear zko1_); (try clear ko2_); (try clear zko2_); have k0_ : W8.cell? ⟨gb, 0, none⟩ = some (.int .i64 a0_0) := (blk_cell (blk_below PP.bk HC) 0).trans rfl; have zk0_ := blk_frozen (blk_below PP.bk HC) 0; have k1_ : W8.cell? ⟨gb, 1, none⟩ = some (.slice A0_1 l0_1.length c0_1) := (blk_cell (blk_below PP.bk HC) 1).trans rfl; have zk1_ := blk_frozen (blk_below PP.bk HC) 1; have k2_ : W8.cell? ⟨gb, 2, none⟩ = some (.slice A0_2 l0_2.length c0_2) := (blk_cell (blk_below PP.bk HC) 2).trans rfl; have zk2_ := blk_frozen (blk_below PP.bk HC) 2; have ko0_ : W8.cell? ⟨go, 0, none⟩ = some (.int .i64 a0_0) := (blk_cell Bo 0).trans rfl; have zko0_ := blk_frozen Bo 0; have ko1_ : W8.cell? ⟨go, 1, none⟩ = some (.slice (some ⟨g, 0, none⟩) l0_1.length cap) := (blk_cell Bo 1).trans rfl; have zko1_ := blk_frozen Bo 1; have ko2_ : W8.cell? ⟨go, 2, none⟩ = some (.slice A0_2 l0_2.length c0_2) := (blk_cell Bo 2).trans rfl; have zko2_ := blk_frozen Bo 2) | ((with_reducible refine gate_builtin (b := .append) (xs := #[.tmp 59, .tmp 61]) rfl ?_); at_builtin; refine Kd.N_append_rows (Kd.slice 26 (Kd.int .u32)) (w0 := W4) W4.heap.size rfl (.tmp 59) (.tmp 61) 23 27 (.slice none 0 0) 24 rfl Try.underlying23 info27 rfl (by decide) (by omega) v59 [] l0_2 _ _ _ (fun k => k ≠ g ∧ k ≠ go) (fun k => k < w.heap.size) rfl rfl hN8 (Kd.F_below F2 (PP.hb.trans (HC.mono PP.hb.size))) (fun k hk => ⟨⟨(fun e_ => by omega), (fun e_ => by have := PP.hb.size; omega)⟩, (fun e_ => by have := Kd.N_base hN8 k e_.symm; have := PP.hb.size; omega)⟩) (fun k hk => ⟨(fun e_ => by have := HC.size; omega), (fun e_ => by have := blk_lt Bo; omega)⟩) HC HC.size (by simp only [List.length_nil]; omega) ?_; intro v62 W9 hN9 HC9 hg9 hat9; rw [List.nil_append] at hN9; obtain ⟨A2, c2, ev⟩ := Kd.N_slice hN9; subst ev; have Bo8 := Bo; replace Bo := (hg9.block go (blk_lt Bo8) (fun e_ => by obtain ⟨b, h1, h2⟩ := ho8; have h3 := Option.some.inj (e_.trans h1); omega)).trans Bo8; replace HC := HC9; clear HC9 hg9 hat9 hN8 ho8 Bo8; (try clear k0_); (try clear zk0_); (try clear k1_); (try clear zk1_); (try clear k2_); (try clear zk2_); (try clear kg0_); (try clear zkg0_); (try clear kg1_); (try clear zkg1_); (try clear kg2_); (try clear zkg2_); (try clear ko0_); (try clear zko0_); (try clear ko1_); (try clear zko1_); (try clear ko2_); (try clear zko2_); have k0_ : W9.cell? ⟨gb, 0, none⟩ = some (.int .i64 a0_0) := (blk_cell (blk_below PP.bk HC) 0).trans rfl; have zk0_ := blk_frozen (blk_below PP.bk HC) 0; have k1_ : W9.cell? ⟨gb, 1, none⟩ = some (.slice A0_1 l0_1.length c0_1) := (blk_cell (blk_below PP.bk HC) 1).trans rfl; have zk1_ := blk_frozen (blk_below PP.bk HC) 1; have k2_ : W9.cell? ⟨gb, 2, none⟩ = some (.slice A0_2 l0_2.length c0_2) := (blk_cell (blk_below PP.bk HC) 2).trans rfl; have zk2_ := blk_frozen (blk_below PP.bk HC) 2; have ko0_ : W9.cell? ⟨go, 0, none⟩ = some (.int .i64 a0_0) := (blk_cell Bo 0).trans rfl; have zko0_ := blk_frozen Bo 0; have ko1_ : W9.cell? ⟨go, 1, none⟩ = some (.slice (some ⟨g, 0, none⟩) l0_1.length cap) := (blk_cell Bo 1).trans rfl; have zko1_ := blk_frozen Bo 1; have ko2_ : W9.cell? ⟨go, 2, none⟩ = some (.slice A0_2 l0_2.length c0_2) := (blk_cell Bo 2).trans rfl; have zko2_ := blk_frozen Bo 2) | ((with_reducible refine gate_store (t := 23) (p := 63) rfl ?_); refine store_event (t := 23) (p := 63) (v := ?vo63_) (w1 := W9.setCell ⟨go, 2, none⟩ (.slice A2 l0_2.length c2)) ?hg ?ho ?hn ?hr ?_; (case ho => rfl); (case hg => rfl); (case hn => rfl); (case hr => first | (go_simp; done) | (go_simp; rfl)); intro W10 hw; have B_ := (by rw [hw]; exact blk_put (cs := #[.int .i64 a0_0, .slice (some ⟨g, 0, none⟩) l0_1.length cap, .slice A0_2 l0_2.length c0_2]) (cs' := #[.int .i64 a0_0, .slice (some ⟨g, 0, none⟩) l0_1.length cap, .slice A2 l0_2.length c2]) Bo 2 _ rfl : W10.heap[go]? = some (.cells #[.int .i64 a0_0, .slice (some ⟨g, 0, none⟩) l0_1.length cap, .slice A2 l0_2.length c2] 25 (0, 0))); have HC_ := (by rw [hw]; exact below_set HC wgo : Below W4.heap.size W4 W10); have V2_ := (by rw [hw]; exact Kd.N_V (Kd.N_mono (Kd.N_far (p := ⟨go, 2, none⟩) hN9 (fun k hk => hk.2) _) (fun k hk => hk.1)) : Kd.V (Kd.slice 26 (Kd.int .u32)) 27 W10 0 (fun k => k ≠ g) (.slice A2 l0_2.length c2) l0_2); replace PP := PP.below HC_; have OW := (⟨B_, blk_below hq HC_, Kd.F_below FO HC_, kk.E.below HE HC_, V2_⟩ : kk.Own w W10 g go cap A2 c2 a0_0 l0_1 l0_2 cs4); clear hw HC Bo hq FO HE hN9 V2_ B_ HC_; (try clear k0_); (try clear zk0_); (try clear k1_); (try clear zk1_); (try clear k2_); (try clear zk2_); (try clear kg0_); (try clear zkg0_); (try clear kg1_); (try clear zkg1_); (try clear kg2_); (try clear zkg2_); (try clear ko0_); (try clear zko0_); (try clear ko1_); (try clear zko1_); (try clear ko2_); (try clear zko2_); have k0_ : W10.cell? ⟨gb, 0, none⟩ = some (.int .i64 a0_0) := (blk_cell PP.bk 0).trans rfl; have zk0_ := blk_frozen PP.bk 0; have k1_ : W10.cell? ⟨gb, 1, none⟩ = some (.slice A0_1 l0_1.length c0_1) := (blk_cell PP.bk 1).trans rfl; have zk1_ := blk_frozen PP.bk 1; have k2_ : W10.cell? ⟨gb, 2, none⟩ = some (.slice A0_2 l0_2.length c0_2) := (blk_cell PP.bk 2).trans rfl; have zk2_ := blk_frozen PP.bk 2; have kg0_ : W10.cell? ⟨gg, 0, none⟩ = some (.int .u32 a1_0) := (blk_cell PP.bg 0).trans rfl; have zkg0_ := blk_frozen PP.bg 0; have kg1_ : W10.cell? ⟨gg, 1, none⟩ = some (.slice A1_1 l1_1.length c1_1) := (blk_cell PP.bg 1).trans rfl; have zkg1_ := blk_frozen PP.bg 1; have ko0_ : W10.cell? ⟨go, 0, none⟩ = some (.int .i64 a0_0) := (blk_cell OW.bo 0).trans rfl; have zko0_ := blk_frozen OW.bo 0; have ko1_ : W10.cell? ⟨go, 1, none⟩ = some (.slice (some ⟨g, 0, none⟩) l0_1.length cap) := (blk_cell OW.bo 1).trans rfl; have zko1_ := blk_frozen OW.bo 1; have ko2_ : W10.cell? ⟨go, 2, none⟩ = some (.slice A2 l0_2.length c2) := (blk_cell OW.bo 2).trans rfl; have zko2_ := blk_frozen OW.bo 2))
  clear w33 er hnn HCut
  have hlc : l0_1.length ≤ cap := Nat.le_trans hln hg3
  refine (net_Send.new a0_0 (fun k => k = g ∨ k < w.heap.size) (fun k => k < w.heap.size) _ cap l0_1 (fun k => k ≠ g) A2 c2 l0_2 a1_0 (fun k => k < w.heap.size) A1_1 c1_1 l1_1 ra1 ra2 ra3 ra4 _ (Kd.V_mk hlc OW.fo) OW.v2 (Kd.V_mk hc1_1 (Kd.F_below F3 PP.hb)) OW.he AA.out).mono ?_
  rintro e W11 ⟨_, _, rfl, ⟨Aa1, ca1, rfl⟩, ⟨Aa2, ca2, rfl⟩, hV, hb11⟩
  have hgW := blk_lt OW.hq
  replace hV : ra4 = 0 → Kd.V k29 29 W11 0 (fun k => k ≠ g) (.slice Aa1 ra2.length ca1) ra2 ∧ Kd.V (Kd.slice 26 (Kd.int .u32)) 27 W11 0 (fun k => k ≠ g) (.slice Aa2 ra3.length ca2) ra3 := fun h0 => ⟨Kd.V_mono (hV h0).1 (fun k hk e_ => by omega), Kd.V_mono (hV h0).2 (fun k hk e_ => by omega)⟩
  replace PP := PP.below hb11
  replace OW := OW.below hb11
  clear hgW hb11
  (try clear k0_); (try clear zk0_); (try clear k1_); (try clear zk1_); (try clear k2_); (try clear zk2_); (try clear kg0_); (try clear zkg0_); (try clear kg1_); (try clear zkg1_); (try clear kg2_); (try clear zkg2_); (try clear ko0_); (try clear zko0_); (try clear ko1_); (try clear zko1_); (try clear ko2_); (try clear zko2_)
  go_wp2_with (first | ((with_reducible refine gate_dst (N := 9) rfl ?_); refine box_event ?hg (N := 9) ?hd (cs := #[.int .i64 0, .slice none 0 0, .slice none 0 0]) (t := 25) ?hr ?_; (case hd => rfl); (case hg => rfl); (case hr => first | (go_simp; done) | (go_simp; rfl)); intro ga hga W12 Ba hb_; have wga : W11.heap.size ≤ ga := Nat.le_of_eq hga.symm; have HC : Below W11.heap.size W11 W12 := hb_; clear hga hb_; have pa0_ : W12.cell? ⟨ga, 0, none⟩ = some (.int .i64 0) := (blk_cell Ba 0).trans rfl; have zpa0_ := blk_frozen Ba 0; have pa1_ : W12.cell? ⟨ga, 1, none⟩ = some (.slice none 0 0) := (blk_cell Ba 1).trans rfl; have zpa1_ := blk_frozen Ba 1; have pa2_ : W12.cell? ⟨ga, 2, none⟩ = some (.slice none 0 0) := (blk_cell Ba 2).trans rfl; have zpa2_ := blk_frozen Ba 2) | ((with_reducible refine gate_store (t := 25) (p := 9) rfl ?_); refine store_event (t := 25) (p := 9) (v := ?vo9_) (w1 := (((W12.setCell ⟨ga, 0, none⟩ (.int .i64 ra1)).setCell ⟨ga, 1, none⟩ (.slice Aa1 ra2.length ca1)).setCell ⟨ga, 2, none⟩ (.slice Aa2 ra3.length ca2))) ?hg ?ho ?hn ?hr ?_; (case ho => rfl); (case hg => rfl); (case hn => rfl); (case hr => first | (go_simp; done) | (go_simp; rfl)); intro W13 hw; have B_ := (by rw [hw]; exact bp3_ Ba : W13.heap[ga]? = some (.cells #[.int .i64 ra1, .slice Aa1 ra2.length ca1, .slice Aa2 ra3.length ca2] 25 (0, 0))); have HC_ := (by rw [hw]; exact (below_set (below_set (below_set HC wga) wga) wga) : Below W11.heap.size W11 W13); clear hw HC Ba; have HC := HC_; have Ba := B_; clear HC_ B_; (try clear pa0_); (try clear zpa0_); (try clear pa1_); (try clear zpa1_); (try clear pa2_); (try clear zpa2_); have NA := (⟨Ba, (by have := HC.size; have := blk_lt OW.hq; omega), fun h0 => ⟨Kd.V_below (hV (by first | exact h0 | trivial)).1 HC, Kd.V_below (hV (by first | exact h0 | trivial)).2 HC⟩⟩ : kk.NB W13 g ga ra4 ra1 Aa1 ca1 ra2 Aa2 ca2 ra3); replace PP := PP.below HC; replace OW := OW.below HC; clear HC Ba hV; (try clear pa0_); (try clear zpa0_); (try clear pa1_); (try clear zpa1_); (try clear pa2_); (try clear zpa2_); have k0_ : W13.cell? ⟨gb, 0, none⟩ = some (.int .i64 a0_0) := (blk_cell PP.bk 0).trans rfl; have zk0_ := blk_frozen PP.bk 0; have k1_ : W13.cell? ⟨gb, 1, none⟩ = some (.slice A0_1 l0_1.length c0_1) := (blk_cell PP.bk 1).trans rfl; have zk1_ := blk_frozen PP.bk 1; have k2_ : W13.cell? ⟨gb, 2, none⟩ = some (.slice A0_2 l0_2.length c0_2) := (blk_cell PP.bk 2).trans rfl; have zk2_ := blk_frozen PP.bk 2; have kg0_ : W13.cell? ⟨gg, 0, none⟩ = some (.int .u32 a1_0) := (blk_cell PP.bg 0).trans rfl; have zkg0_ := blk_frozen PP.bg 0; have kg1_ : W13.cell? ⟨gg, 1, none⟩ = some (.slice A1_1 l1_1.length c1_1) := (blk_cell PP.bg 1).trans rfl; have zkg1_ := blk_frozen PP.bg 1; have ko0_ : W13.cell? ⟨go, 0, none⟩ = some (.int .i64 a0_0) := (blk_cell OW.bo 0).trans rfl; have zko0_ := blk_frozen OW.bo 0; have ko1_ : W13.cell? ⟨go, 1, none⟩ = some (.slice (some ⟨g, 0, none⟩) l0_1.length cap) := (blk_cell OW.bo 1).trans rfl; have zko1_ := blk_frozen OW.bo 1; have ko2_ : W13.cell? ⟨go, 2, none⟩ = some (.slice A2 l0_2.length c2) := (blk_cell OW.bo 2).trans rfl; have zko2_ := blk_frozen OW.bo 2))
  refine (net_Take.new a0_0 (fun k => k = g ∨ k < w.heap.size) (fun k => k < w.heap.size) _ cap l0_1 (fun k => k ≠ g) A2 c2 l0_2 a2 rb1 rb2 rb3 rb4 rb5 rb6 _ (Kd.V_mk hlc OW.fo) OW.v2 OW.he AB.out).mono ?_
  rintro e W14 ⟨_, _, _, rfl, ⟨Ab1, cb1, rfl⟩, ⟨Ab2, cb2, rfl⟩, ⟨Ab4, cb4, rfl⟩, hV, hb14⟩
  have hgW := blk_lt OW.hq
  replace hV : rb6 = 0 → Kd.V k29 29 W14 0 (fun k => k ≠ g) (.slice Ab1 rb2.length cb1) rb2 ∧ Kd.V (Kd.slice 26 (Kd.int .u32)) 27 W14 0 (fun k => k ≠ g) (.slice Ab2 rb3.length cb2) rb3 := fun h0 => ⟨Kd.V_mono (hV h0).1 (fun k hk e_ => by omega), Kd.V_mono (hV h0).2 (fun k hk e_ => by omega)⟩
  replace PP := PP.below hb14
  replace OW := OW.below hb14
  replace NA := NA.below hb14
  clear hgW hb14
  (try clear k0_); (try clear zk0_); (try clear k1_); (try clear zk1_); (try clear k2_); (try clear zk2_); (try clear kg0_); (try clear zkg0_); (try clear kg1_); (try clear zkg1_); (try clear kg2_); (try clear zkg2_); (try clear ko0_); (try clear zko0_); (try clear ko1_); (try clear zko1_); (try clear ko2_); (try clear zko2_)
  go_wp2_with (first | ((with_reducible refine gate_dst (N := 11) rfl ?_); refine box_event ?hg (N := 11) ?hd (cs := #[.int .i64 0, .slice none 0 0, .slice none 0 0]) (t := 25) ?hr ?_; (case hd => rfl); (case hg => rfl); (case hr => first | (go_simp; done) | (go_simp; rfl)); intro gt hgt W15 Bt hb_; have wgt : W14.heap.size ≤ gt := Nat.le_of_eq hgt.symm; have HC : Below W14.heap.size W14 W15 := hb_; clear hgt hb_; have pt0_ : W15.cell? ⟨gt, 0, none⟩ = some (.int .i64 0) := (blk_cell Bt 0).trans rfl; have zpt0_ := blk_frozen Bt 0; have pt1_ : W15.cell? ⟨gt, 1, none⟩ = some (.slice none 0 0) := (blk_cell Bt 1).trans rfl; have zpt1_ := blk_frozen Bt 1; have pt2_ : W15.cell? ⟨gt, 2, none⟩ = some (.slice none 0 0) := (blk_cell Bt 2).trans rfl; have zpt2_ := blk_frozen Bt 2) | ((with_reducible refine gate_dst (N := 12) rfl ?_); refine box_event ?hg (N := 12) ?hd (cs := #[.int .u32 0, .slice none 0 0]) (t := 29) ?hr ?_; (case hd => rfl); (case hg => rfl); (case hr => first | (go_simp; done) | (go_simp; rfl)); intro gf hgf W16 Bf hb_; have wgf : W14.heap.size ≤ gf := Nat.le_trans HC.size (Nat.le_of_eq hgf.symm); have ltf : gt < gf := (by rw [hgf]; exact blk_lt Bt); replace HC := HC.trans (hb_.mono HC.size); replace Bt := blk_below Bt hb_; (try clear pt0_); (try clear zpt0_); (try clear pt1_); (try clear zpt1_); (try clear pt2_); (try clear zpt2_); have pt0_ : W16.cell? ⟨gt, 0, none⟩ = some (.int .i64 0) := (blk_cell Bt 0).trans rfl; have zpt0_ := blk_frozen Bt 0; have pt1_ : W16.cell? ⟨gt, 1, none⟩ = some (.slice none 0 0) := (blk_cell Bt 1).trans rfl; have zpt1_ := blk_frozen Bt 1; have pt2_ : W16.cell? ⟨gt, 2, none⟩ = some (.slice none 0 0) := (blk_cell Bt 2).trans rfl; have zpt2_ := blk_frozen Bt 2; clear hgf hb_; have pf0_ : W16.cell? ⟨gf, 0, none⟩ = some (.int .u32 0) := (blk_cell Bf 0).trans rfl; have zpf0_ := blk_frozen Bf 0; have pf1_ : W16.cell? ⟨gf, 1, none⟩ = some (.slice none 0 0) := (blk_cell Bf 1).trans rfl; have zpf1_ := blk_frozen Bf 1) | ((with_reducible refine gate_store (t := 25) (p := 11) rfl ?_); refine store_event (t := 25) (p := 11) (v := ?vo11_) (w1 := (((W16.setCell ⟨gt, 0, none⟩ (.int .i64 rb1)).setCell ⟨gt, 1, none⟩ (.slice Ab1 rb2.length cb1)).setCell ⟨gt, 2, none⟩ (.slice Ab2 rb3.length cb2))) ?hg ?ho ?hn ?hr ?_; (case ho => rfl); (case hg => rfl); (case hn => rfl); (case hr => first | (go_simp; done) | (go_simp; rfl)); intro W17 hw; have B_ := (by rw [hw]; exact bp3_ Bt : W17.heap[gt]? = some (.cells #[.int .i64 rb1, .slice Ab1 rb2.length cb1, .slice Ab2 rb3.length cb2] 25 (0, 0))); have HC_ := (by rw [hw]; exact (below_set (below_set (below_set HC wgt) wgt) wgt) : Below W14.heap.size W14 W17); have O_ := (by rw [hw]; exact bf3_ Bf (Nat.ne_of_gt ltf) : W17.heap[gf]? = some (.cells #[.int .u32 0, .slice none 0 0] 29 (0, 0))); clear hw HC Bt; have HC := HC_; have Bt := B_; clear HC_ B_; (try clear pt0_); (try clear zpt0_); (try clear pt1_); (try clear zpt1_); (try clear pt2_); (try clear zpt2_); clear Bf; have Bf := O_; clear O_; (try clear pf0_); (try clear zpf0_); (try clear pf1_); (try clear zpf1_); (try clear pf2_); (try clear zpf2_); have pf0_ : W17.cell? ⟨gf, 0, none⟩ = some (.int .u32 0) := (blk_cell Bf 0).trans rfl; have zpf0_ := blk_frozen Bf 0; have pf1_ : W17.cell? ⟨gf, 1, none⟩ = some (.slice none 0 0) := (blk_cell Bf 1).trans rfl; have zpf1_ := blk_frozen Bf 1; skip) | ((with_reducible refine gate_store (t := 29) (p := 12) rfl ?_); refine store_event (t := 29) (p := 12) (v := ?vo12_) (w1 := ((W17.setCell ⟨gf, 0, none⟩ (.int .u32 rb4)).setCell ⟨gf, 1, none⟩ (.slice Ab4 rb5.length cb4))) ?hg ?ho ?hn ?hr ?_; (case ho => rfl); (case hg => rfl); (case hn => rfl); (case hr => first | (go_simp; done) | (go_simp; rfl)); intro W170 hw; have B_ := (by rw [hw]; exact bp2_ Bf : W170.heap[gf]? = some (.cells #[.int .u32 rb4, .slice Ab4 rb5.length cb4] 29 (0, 0))); have HC_ := (by rw [hw]; exact (below_set (below_set HC wgf) wgf) : Below W14.heap.size W14 W170); have O_ := (by rw [hw]; exact bf2_ Bt (Nat.ne_of_lt ltf) : W170.heap[gt]? = some (.cells #[.int .i64 rb1, .slice Ab1 rb2.length cb1, .slice Ab2 rb3.length cb2] 25 (0, 0))); clear hw HC Bf; have HC := HC_; have Bf := B_; clear HC_ B_; (try clear pf0_); (try clear zpf0_); (try clear pf1_); (try clear zpf1_); (try clear pf2_); (try clear zpf2_); clear Bt; have Bt := O_; clear O_; (try clear pt0_); (try clear zpt0_); (try clear pt1_); (try clear zpt1_); (try clear pt2_); (try clear zpt2_); have pt0_ : W170.cell? ⟨gt, 0, none⟩ = some (.int .i64 rb1) := (blk_cell Bt 0).trans rfl; have zpt0_ := blk_frozen Bt 0; have pt1_ : W170.cell? ⟨gt, 1, none⟩ = some (.slice Ab1 rb2.length cb1) := (blk_cell Bt 1).trans rfl; have zpt1_ := blk_frozen Bt 1; have pt2_ : W170.cell? ⟨gt, 2, none⟩ = some (.slice Ab2 rb3.length cb2) := (blk_cell Bt 2).trans rfl; have zpt2_ := blk_frozen Bt 2; clear Bf; have NB := (⟨Bt, (by have := HC.size; have := blk_lt OW.hq; omega), fun h0 => ⟨Kd.V_below (hV (by first | exact h0 | trivial)).1 HC, Kd.V_below (hV (by first | exact h0 | trivial)).2 HC⟩⟩ : kk.NB W170 g gt rb6 rb1 Ab1 cb1 rb2 Ab2 cb2 rb3); replace PP := PP.below HC; replace OW := OW.below HC; replace NA := NA.below HC; clear HC Bt hV; (try clear pt0_); (try clear zpt0_); (try clear pt1_); (try clear zpt1_); (try clear pt2_); (try clear zpt2_); have k0_ : W170.cell? ⟨gb, 0, none⟩ = some (.int .i64 a0_0) := (blk_cell PP.bk 0).trans rfl; have zk0_ := blk_frozen PP.bk 0; have k1_ : W170.cell? ⟨gb, 1, none⟩ = some (.slice A0_1 l0_1.length c0_1) := (blk_cell PP.bk 1).trans rfl; have zk1_ := blk_frozen PP.bk 1; have k2_ : W170.cell? ⟨gb, 2, none⟩ = some (.slice A0_2 l0_2.length c0_2) := (blk_cell PP.bk 2).trans rfl; have zk2_ := blk_frozen PP.bk 2; have kg0_ : W170.cell? ⟨gg, 0, none⟩ = some (.int .u32 a1_0) := (blk_cell PP.bg 0).trans rfl; have zkg0_ := blk_frozen PP.bg 0; have kg1_ : W170.cell? ⟨gg, 1, none⟩ = some (.slice A1_1 l1_1.length c1_1) := (blk_cell PP.bg 1).trans rfl; have zkg1_ := blk_frozen PP.bg 1; have ko0_ : W170.cell? ⟨go, 0, none⟩ = some (.int .i64 a0_0) := (blk_cell OW.bo 0).trans rfl; have zko0_ := blk_frozen OW.bo 0; have ko1_ : W170.cell? ⟨go, 1, none⟩ = some (.slice (some ⟨g, 0, none⟩) l0_1.length cap) := (blk_cell OW.bo 1).trans rfl; have zko1_ := blk_frozen OW.bo 1; have ko2_ : W170.cell? ⟨go, 2, none⟩ = some (.slice A2 l0_2.length c2) := (blk_cell OW.bo 2).trans rfl; have zko2_ := blk_frozen OW.bo 2))
  refine (net_Double.new a0_0 (fun k => k = g ∨ k < w.heap.size) (fun k => k < w.heap.size) _ cap l0_1 (fun k => k ≠ g) A2 c2 l0_2 a2 rc1 rc2 rc3 rc4 _ (Kd.V_mk hlc OW.fo) OW.v2 OW.he AC.out).mono ?_
  rintro e W18 ⟨_, _, rfl, ⟨Ac1, cc1, rfl⟩, ⟨Ac2, cc2, rfl⟩, hV, hb18⟩
  have hgW := blk_lt OW.hq
  replace hV : rc4 = 0 → Kd.V k29 29 W18 0 (fun k => k ≠ g) (.slice Ac1 rc2.length cc1) rc2 ∧ Kd.V (Kd.slice 26 (Kd.int .u32)) 27 W18 0 (fun k => k ≠ g) (.slice Ac2 rc3.length cc2) rc3 := fun h0 => ⟨Kd.V_mono (hV h0).1 (fun k hk e_ => by omega), Kd.V_mono (hV h0).2 (fun k hk e_ => by omega)⟩
  replace PP := PP.below hb18
  replace OW := OW.below hb18
  replace NA := NA.below hb18
  replace NB := NB.below hb18
  clear hgW hb18
  (try clear k0_); (try clear zk0_); (try clear k1_); (try clear zk1_); (try clear k2_); (try clear zk2_); (try clear kg0_); (try clear zkg0_); (try clear kg1_); (try clear zkg1_); (try clear kg2_); (try clear zkg2_); (try clear ko0_); (try clear zko0_); (try clear ko1_); (try clear zko1_); (try clear ko2_); (try clear zko2_)
  go_wp2_with (first | ((with_reducible refine gate_dst (N := 14) rfl ?_); refine box_event ?hg (N := 14) ?hd (cs := #[.int .i64 0, .slice none 0 0, .slice none 0 0]) (t := 25) ?hr ?_; (case hd => rfl); (case hg => rfl); (case hr => first | (go_simp; done) | (go_simp; rfl)); intro gc hgc W180 Bc hb_; have wgc : W18.heap.size ≤ gc := Nat.le_of_eq hgc.symm; have HC : Below W18.heap.size W18 W180 := hb_; clear hgc hb_; have pc0_ : W180.cell? ⟨gc, 0, none⟩ = some (.int .i64 0) := (blk_cell Bc 0).trans rfl; have zpc0_ := blk_frozen Bc 0; have pc1_ : W180.cell? ⟨gc, 1, none⟩ = some (.slice none 0 0) := (blk_cell Bc 1).trans rfl; have zpc1_ := blk_frozen Bc 1; have pc2_ : W180.cell? ⟨gc, 2, none⟩ = some (.slice none 0 0) := (blk_cell Bc 2).trans rfl; have zpc2_ := blk_frozen Bc 2) | ((with_reducible refine gate_store (t := 25) (p := 14) rfl ?_); refine store_event (t := 25) (p := 14) (v := ?vo14_) (w1 := (((W180.setCell ⟨gc, 0, none⟩ (.int .i64 rc1)).setCell ⟨gc, 1, none⟩ (.slice Ac1 rc2.length cc1)).setCell ⟨gc, 2, none⟩ (.slice Ac2 rc3.length cc2))) ?hg ?ho ?hn ?hr ?_; (case ho => rfl); (case hg => rfl); (case hn => rfl); (case hr => first | (go_simp; done) | (go_simp; rfl)); intro W19 hw; have B_ := (by rw [hw]; exact bp3_ Bc : W19.heap[gc]? = some (.cells #[.int .i64 rc1, .slice Ac1 rc2.length cc1, .slice Ac2 rc3.length cc2] 25 (0, 0))); have HC_ := (by rw [hw]; exact (below_set (below_set (below_set HC wgc) wgc) wgc) : Below W18.heap.size W18 W19); clear hw HC Bc; have HC := HC_; have Bc := B_; clear HC_ B_; (try clear pc0_); (try clear zpc0_); (try clear pc1_); (try clear zpc1_); (try clear pc2_); (try clear zpc2_); have NC := (⟨Bc, (by have := HC.size; have := blk_lt OW.hq; omega), fun h0 => ⟨Kd.V_below (hV (by first | exact h0 | trivial)).1 HC, Kd.V_below (hV (by first | exact h0 | trivial)).2 HC⟩⟩ : kk.NB W19 g gc rc4 rc1 Ac1 cc1 rc2 Ac2 cc2 rc3); replace PP := PP.below HC; replace OW := OW.below HC; replace NA := NA.below HC; replace NB := NB.below HC; clear HC Bc hV; (try clear pc0_); (try clear zpc0_); (try clear pc1_); (try clear zpc1_); (try clear pc2_); (try clear zpc2_); have k0_ : W19.cell? ⟨gb, 0, none⟩ = some (.int .i64 a0_0) := (blk_cell PP.bk 0).trans rfl; have zk0_ := blk_frozen PP.bk 0; have k1_ : W19.cell? ⟨gb, 1, none⟩ = some (.slice A0_1 l0_1.length c0_1) := (blk_cell PP.bk 1).trans rfl; have zk1_ := blk_frozen PP.bk 1; have k2_ : W19.cell? ⟨gb, 2, none⟩ = some (.slice A0_2 l0_2.length c0_2) := (blk_cell PP.bk 2).trans rfl; have zk2_ := blk_frozen PP.bk 2; have kg0_ : W19.cell? ⟨gg, 0, none⟩ = some (.int .u32 a1_0) := (blk_cell PP.bg 0).trans rfl; have zkg0_ := blk_frozen PP.bg 0; have kg1_ : W19.cell? ⟨gg, 1, none⟩ = some (.slice A1_1 l1_1.length c1_1) := (blk_cell PP.bg 1).trans rfl; have zkg1_ := blk_frozen PP.bg 1; have ko0_ : W19.cell? ⟨go, 0, none⟩ = some (.int .i64 a0_0) := (blk_cell OW.bo 0).trans rfl; have zko0_ := blk_frozen OW.bo 0; have ko1_ : W19.cell? ⟨go, 1, none⟩ = some (.slice (some ⟨g, 0, none⟩) l0_1.length cap) := (blk_cell OW.bo 1).trans rfl; have zko1_ := blk_frozen OW.bo 1; have ko2_ : W19.cell? ⟨go, 2, none⟩ = some (.slice A2 l0_2.length c2) := (blk_cell OW.bo 2).trans rfl; have zko2_ := blk_frozen OW.bo 2) | (go_at_call 18; (with_reducible refine (chamberlainref06_Same.calls 3000 a0_0 _ cap l0_1 _ c2 l0_2 a0_0 _ _ l0_1 _ _ l0_2 true _ (Kd.F_now OW.fo) hlc (Kd.V_reads' OW.v2).2.2 (Kd.V_reads' OW.v2).2.1 (Kd.F_now (Kd.F_below F1 PP.hb)) hc0_1 (Kd.F_now (Kd.F_below F2 PP.hb)) hc0_2 ASn.out).mono ?_); rintro e W190 ⟨rfl, hb_⟩; replace PP := PP.below hb_; replace OW := OW.below hb_; replace NA := NA.below hb_; replace NB := NB.below hb_; replace NC := NC.below hb_; clear hb_; (try clear k0_); (try clear zk0_); (try clear k1_); (try clear zk1_); (try clear k2_); (try clear zk2_); (try clear kg0_); (try clear zkg0_); (try clear kg1_); (try clear zkg1_); (try clear kg2_); (try clear zkg2_); (try clear ko0_); (try clear zko0_); (try clear ko1_); (try clear zko1_); (try clear ko2_); (try clear zko2_); have k0_ : W190.cell? ⟨gb, 0, none⟩ = some (.int .i64 a0_0) := (blk_cell PP.bk 0).trans rfl; have zk0_ := blk_frozen PP.bk 0; have k1_ : W190.cell? ⟨gb, 1, none⟩ = some (.slice A0_1 l0_1.length c0_1) := (blk_cell PP.bk 1).trans rfl; have zk1_ := blk_frozen PP.bk 1; have k2_ : W190.cell? ⟨gb, 2, none⟩ = some (.slice A0_2 l0_2.length c0_2) := (blk_cell PP.bk 2).trans rfl; have zk2_ := blk_frozen PP.bk 2; have x0_ : W190.cell? ⟨g, l0_1.length * 2, none⟩ = some (.int .u32 0) := (blk_cell OW.hq _).trans (hzero 0 _ rfl); have y0_ := blk_frozen OW.hq (l0_1.length * 2); have x1_ : W190.cell? ⟨g, l0_1.length * 2 + 1, none⟩ = some (.slice none 0 0) := (blk_cell OW.hq _).trans (hzero 1 _ rfl); have y1_ := blk_frozen OW.hq (l0_1.length * 2 + 1)) | (go_at_call 19; refine (chamberlainref06_One.calls 300 0 none 0 [] 0 none 0 [] true _ (Kd.C_nil _ _) (Nat.le_refl _) (Kd.C_nil _ _) (Nat.le_refl _) AO.out).mono ?_; rintro e W191 ⟨rfl, hb_⟩; replace PP := PP.below hb_; replace OW := OW.below hb_; replace NA := NA.below hb_; replace NB := NB.below hb_; replace NC := NC.below hb_; clear hb_ x0_ y0_ x1_ y1_; (try clear k0_); (try clear zk0_); (try clear k1_); (try clear zk1_); (try clear k2_); (try clear zk2_); (try clear kg0_); (try clear zkg0_); (try clear kg1_); (try clear zkg1_); (try clear kg2_); (try clear zkg2_); (try clear ko0_); (try clear zko0_); (try clear ko1_); (try clear zko1_); (try clear ko2_); (try clear zko2_)))
  have HK : kk.Blk _ g 29 (cap * 2) := ⟨cs4, OW.hq, hs4⟩
  have hne1 : gb ≠ g := hne
  go_loopg [16] (n + 1) (fun kq v16 w' => ∃ (i : Nat), v16 = .int .i64 (i : Int) ∧ Aside0 (i + kq = n + 1) ∧ Aside0 (i ≤ n) ∧ Aside0 (kk.Blk w' g 29 (cap * 2)) ∧ Aside0 (kk.Par w w' gb gg a0_0 A0_1 l0_1.length c0_1 A0_2 l0_2.length c0_2 a1_0 A1_1 l1_1.length c1_1) ∧ Aside0 (kk.NB w' g ga ra4 ra1 Aa1 ca1 ra2 Aa2 ca2 ra3) ∧ Aside0 (kk.NB w' g gt rb6 rb1 Ab1 cb1 rb2 Ab2 cb2 rb3) ∧ Aside0 (kk.NB w' g gc rc4 rc1 Ac1 cc1 rc2 Ac2 cc2 rc3))
  case atStart => exact ⟨0, rfl, ⟨Nat.zero_add _⟩, ⟨Nat.zero_le _⟩, ⟨HK⟩, ⟨PP⟩, ⟨NA⟩, ⟨NB⟩, ⟨NC⟩⟩
  case round =>
    (try clear k0_); (try clear zk0_); (try clear k1_); (try clear zk1_); (try clear k2_); (try clear zk2_); (try clear kg0_); (try clear zkg0_); (try clear kg1_); (try clear zkg1_); (try clear kg2_); (try clear zkg2_); (try clear ko0_); (try clear zko0_); (try clear ko1_); (try clear zko1_); (try clear ko2_); (try clear zko2_)
    clear HK PP NA NB NC OW hs4 hzero
    obtain ⟨i, rfl, HA, HI, HK, PP, NA, NB, NC⟩ := hrel
    cases gk with
    | zero => have := HA.out; have := HI.out; omega
    | succ k2 =>
      by_cases c : i < n
      · have Q1 : i + 1 + k2 = n + 1 := by have := HA.out; omega
        have Q2 : i + 1 ≤ n := by omega
        have Q4 : k2 < k2 + 1 := Nat.lt_succ_self _
        have ic : i * 2 + 2 ≤ cap * 2 := by omega
        have cb : decide ((i : Int) < (n : Int)) = true := decide_eq_true (by omega)
        have p1 : (0 ≤ (i : Int)) = True := eq_true (by omega)
        have p2 : ((i : Int) < (n : Int)) = True := eq_true (by omega)
        obtain ⟨u0_, i0_, j0_⟩ := HK.out.cell (i * 2) (by omega)
        obtain ⟨u1_, i1_, j1_⟩ := HK.out.cell (i * 2 + 1) (by omega)
        clear ic
        have w58 : Value.int .i64 (wrap64 ((i : Int) + 1)) = Value.int .i64 ((i + 1 : Nat) : Int) := by rw [uk.w64 (by omega) (by omega)]; rfl
        go_wp2_with (first | ((with_reducible refine gate_store (t := 29) (p := 107) rfl ?_); refine store_event (t := 29) (p := 107) (v := ?vo107_) (w1 := ((wr.setCell ⟨g, i * 2, none⟩ (.int .u32 99)).setCell ⟨g, i * 2 + 1, none⟩ (.slice none 0 0))) ?hg ?ho ?hn ?hr ?_; (case ho => rfl); (case hg => rfl); (case hn => rfl); (case hr => first | (go_simp; done) | (go_simp; rfl)); intro w7 hw; have HK7 := (by rw [hw]; exact (HK.out.set (i * 2) _).set (i * 2 + 1) _ : kk.Blk w7 g 29 (cap * 2)); have PP7 := (by rw [hw]; exact (PP.out.far hne hneg hg1 _ _).far hne hneg hg1 _ _ : kk.Par w w7 gb gg a0_0 A0_1 l0_1.length c0_1 A0_2 l0_2.length c0_2 a1_0 A1_1 l1_1.length c1_1); have NA7 := (by rw [hw]; exact (NA.out.far _ _).far _ _ : kk.NB w7 g ga ra4 ra1 Aa1 ca1 ra2 Aa2 ca2 ra3); have NB7 := (by rw [hw]; exact (NB.out.far _ _).far _ _ : kk.NB w7 g gt rb6 rb1 Ab1 cb1 rb2 Ab2 cb2 rb3); have NC7 := (by rw [hw]; exact (NC.out.far _ _).far _ _ : kk.NB w7 g gc rc4 rc1 Ac1 cc1 rc2 Ac2 cc2 rc3); clear hw i0_ j0_ i1_ j1_))
        go_roundg k2
        case measure => exact Q4
        case rel => exact ⟨i + 1, (by first | exact w58 | rfl), ⟨Q1⟩, ⟨Q2⟩, ⟨HK7⟩, ⟨PP7⟩, ⟨NA7⟩, ⟨NB7⟩, ⟨NC7⟩⟩
      · have cb : decide ((i : Int) < (n : Int)) = false := decide_eq_false (by omega)
        have PP := PP.out
        have NA := NA.out
        have NB := NB.out
        have NC := NC.out
        obtain ⟨_, hqK, _⟩ := HK.out
        have hgW := blk_lt hqK
        clear HK HA HI hqK
        have k0_ : wr.cell? ⟨gb, 0, none⟩ = some (.int .i64 a0_0) := (blk_cell PP.bk 0).trans rfl; have zk0_ := blk_frozen PP.bk 0; have k1_ : wr.cell? ⟨gb, 1, none⟩ = some (.slice A0_1 l0_1.length c0_1) := (blk_cell PP.bk 1).trans rfl; have zk1_ := blk_frozen PP.bk 1; have k2_ : wr.cell? ⟨gb, 2, none⟩ = some (.slice A0_2 l0_2.length c0_2) := (blk_cell PP.bk 2).trans rfl; have zk2_ := blk_frozen PP.bk 2
        have kg0_ : wr.cell? ⟨gg, 0, none⟩ = some (.int .u32 a1_0) := (blk_cell PP.bg 0).trans rfl; have zkg0_ := blk_frozen PP.bg 0; have kg1_ : wr.cell? ⟨gg, 1, none⟩ = some (.slice A1_1 l1_1.length c1_1) := (blk_cell PP.bg 1).trans rfl; have zkg1_ := blk_frozen PP.bg 1
        go_wp2_with fail
        clear cb c
        refine (chamberlainref06_Send.calls a0_0 (fun k => k < w.heap.size) A0_1 c0_1 l0_1 (fun k => k < w.heap.size) A0_2 c0_2 l0_2 a1_0 (fun k => k < w.heap.size) A1_1 c1_1 l1_1 ra1 ra2 ra3 ra4 _ (Kd.V_mk hc0_1 (Kd.F_below F1 PP.hb)) (Kd.V_mk hc0_2 (Kd.F_below F2 PP.hb)) (Kd.V_mk hc1_1 (Kd.F_below F3 PP.hb)) AX.out).mono ?_
        rintro e W20 ⟨_, _, rfl, hX1, hX2, hb20⟩
        obtain ⟨Ax1, cx1, rfl⟩ := Kd.V_slice hX1
        obtain ⟨Ax2, cx2, rfl⟩ := Kd.V_slice hX2
        have hV : (0 : Int) = 0 → Kd.V k29 29 W20 0 (fun k => k ≠ g) (.slice Ax1 ra2.length cx1) ra2 ∧ Kd.V (Kd.slice 26 (Kd.int .u32)) 27 W20 0 (fun k => k ≠ g) (.slice Ax2 ra3.length cx2) ra3 := fun _ => ⟨Kd.V_mono hX1 (fun k hk e_ => by omega), Kd.V_mono hX2 (fun k hk e_ => by omega)⟩
        replace hgW := Nat.lt_of_lt_of_le hgW hb20.size
        replace PP := PP.below hb20
        replace NA := NA.below hb20
        replace NB := NB.below hb20
        replace NC := NC.below hb20
        clear hX1 hX2 hb20
        (try clear k0_); (try clear zk0_); (try clear k1_); (try clear zk1_); (try clear k2_); (try clear zk2_); (try clear kg0_); (try clear zkg0_); (try clear kg1_); (try clear zkg1_); (try clear kg2_); (try clear zkg2_)
        go_wp2_with (first | ((with_reducible refine gate_dst (N := 17) rfl ?_); refine box_event ?hg (N := 17) ?hd (cs := #[.int .i64 0, .slice none 0 0, .slice none 0 0]) (t := 25) ?hr ?_; (case hd => rfl); (case hg => rfl); (case hr => first | (go_simp; done) | (go_simp; rfl)); intro gp hgp W22 Bp hb_; have wgp : W20.heap.size ≤ gp := Nat.le_of_eq hgp.symm; have HC : Below W20.heap.size W20 W22 := hb_; clear hgp hb_; have pp0_ : W22.cell? ⟨gp, 0, none⟩ = some (.int .i64 0) := (blk_cell Bp 0).trans rfl; have zpp0_ := blk_frozen Bp 0; have pp1_ : W22.cell? ⟨gp, 1, none⟩ = some (.slice none 0 0) := (blk_cell Bp 1).trans rfl; have zpp1_ := blk_frozen Bp 1; have pp2_ : W22.cell? ⟨gp, 2, none⟩ = some (.slice none 0 0) := (blk_cell Bp 2).trans rfl; have zpp2_ := blk_frozen Bp 2) | ((with_reducible refine gate_store (t := 25) (p := 17) rfl ?_); refine store_event (t := 25) (p := 17) (v := ?vo17_) (w1 := (((W22.setCell ⟨gp, 0, none⟩ (.int .i64 ra1)).setCell ⟨gp, 1, none⟩ (.slice Ax1 ra2.length cx1)).setCell ⟨gp, 2, none⟩ (.slice Ax2 ra3.length cx2))) ?hg ?ho ?hn ?hr ?_; (case ho => rfl); (case hg => rfl); (case hn => rfl); (case hr => first | (go_simp; done) | (go_simp; rfl)); intro W23 hw; have B_ := (by rw [hw]; exact bp3_ Bp : W23.heap[gp]? = some (.cells #[.int .i64 ra1, .slice Ax1 ra2.length cx1, .slice Ax2 ra3.length cx2] 25 (0, 0))); have HC_ := (by rw [hw]; exact (below_set (below_set (below_set HC wgp) wgp) wgp) : Below W20.heap.size W20 W23); clear hw HC Bp; have HC := HC_; have Bp := B_; clear HC_ B_; (try clear pp0_); (try clear zpp0_); (try clear pp1_); (try clear zpp1_); (try clear pp2_); (try clear zpp2_); have NX := (⟨Bp, (by have := HC.size; omega), fun h0 => ⟨Kd.V_below (hV (by first | exact h0 | trivial)).1 HC, Kd.V_below (hV (by first | exact h0 | trivial)).2 HC⟩⟩ : kk.NB W23 g gp 0 ra1 Ax1 cx1 ra2 Ax2 cx2 ra3); replace PP := PP.below HC; replace NA := NA.below HC; replace NB := NB.below HC; replace NC := NC.below HC; have hgW := Nat.lt_of_lt_of_le hgW HC.size; clear HC Bp hV; (try clear pp0_); (try clear zpp0_); (try clear pp1_); (try clear zpp1_); (try clear pp2_); (try clear zpp2_); have k0_ : W23.cell? ⟨gb, 0, none⟩ = some (.int .i64 a0_0) := (blk_cell PP.bk 0).trans rfl; have zk0_ := blk_frozen PP.bk 0; have k1_ : W23.cell? ⟨gb, 1, none⟩ = some (.slice A0_1 l0_1.length c0_1) := (blk_cell PP.bk 1).trans rfl; have zk1_ := blk_frozen PP.bk 1; have k2_ : W23.cell? ⟨gb, 2, none⟩ = some (.slice A0_2 l0_2.length c0_2) := (blk_cell PP.bk 2).trans rfl; have zk2_ := blk_frozen PP.bk 2; have kg0_ : W23.cell? ⟨gg, 0, none⟩ = some (.int .u32 a1_0) := (blk_cell PP.bg 0).trans rfl; have zkg0_ := blk_frozen PP.bg 0; have kg1_ : W23.cell? ⟨gg, 1, none⟩ = some (.slice A1_1 l1_1.length c1_1) := (blk_cell PP.bg 1).trans rfl; have zkg1_ := blk_frozen PP.bg 1))
        refine (chamberlainref06_Take.calls 3000 a0_0 (fun k => k < w.heap.size) A0_1 c0_1 l0_1 (fun k => k < w.heap.size) A0_2 c0_2 l0_2 a2 rb1 rb2 rb3 rb4 rb5 rb6 _ (Kd.V_mk hc0_1 (Kd.F_below F1 PP.hb)) (Kd.V_mk hc0_2 (Kd.F_below F2 PP.hb)) AY.out).mono ?_
        rintro e W24 ⟨_, _, _, rfl, hX1, hX2, hX4, hb24⟩
        obtain ⟨Ay1, cy1, rfl⟩ := Kd.V_slice hX1
        obtain ⟨Ay2, cy2, rfl⟩ := Kd.V_slice hX2
        obtain ⟨Ay4, cy4, rfl⟩ := Kd.V_slice hX4
        clear hX4
        have hV : (0 : Int) = 0 → Kd.V k29 29 W24 0 (fun k => k ≠ g) (.slice Ay1 rb2.length cy1) rb2 ∧ Kd.V (Kd.slice 26 (Kd.int .u32)) 27 W24 0 (fun k => k ≠ g) (.slice Ay2 rb3.length cy2) rb3 := fun _ => ⟨Kd.V_mono hX1 (fun k hk e_ => by omega), Kd.V_mono hX2 (fun k hk e_ => by omega)⟩
        replace hgW := Nat.lt_of_lt_of_le hgW hb24.size
        replace PP := PP.below hb24
        replace NA := NA.below hb24
        replace NB := NB.below hb24
        replace NC := NC.below hb24
        replace NX := NX.below hb24
        clear hX1 hX2 hb24
        (try clear k0_); (try clear zk0_); (try clear k1_); (try clear zk1_); (try clear k2_); (try clear zk2_); (try clear kg0_); (try clear zkg0_); (try clear kg1_); (try clear zkg1_); (try clear kg2_); (try clear zkg2_)
        go_wp2_with (first | ((with_reducible refine gate_dst (N := 19) rfl ?_); refine box_event ?hg (N := 19) ?hd (cs := #[.int .i64 0, .slice none 0 0, .slice none 0 0]) (t := 25) ?hr ?_; (case hd => rfl); (case hg => rfl); (case hr => first | (go_simp; done) | (go_simp; rfl)); intro gq hgq W25 Bq hb_; have wgq : W24.heap.size ≤ gq := Nat.le_of_eq hgq.symm; have HC : Below W24.heap.size W24 W25 := hb_; clear hgq hb_; have pq0_ : W25.cell? ⟨gq, 0, none⟩ = some (.int .i64 0) := (blk_cell Bq 0).trans rfl; have zpq0_ := blk_frozen Bq 0; have pq1_ : W25.cell? ⟨gq, 1, none⟩ = some (.slice none 0 0) := (blk_cell Bq 1).trans rfl; have zpq1_ := blk_frozen Bq 1; have pq2_ : W25.cell? ⟨gq, 2, none⟩ = some (.slice none 0 0) := (blk_cell Bq 2).trans rfl; have zpq2_ := blk_frozen Bq 2) | ((with_reducible refine gate_dst (N := 20) rfl ?_); refine box_event ?hg (N := 20) ?hd (cs := #[.int .u32 0, .slice none 0 0]) (t := 29) ?hr ?_; (case hd => rfl); (case hg => rfl); (case hr => first | (go_simp; done) | (go_simp; rfl)); intro gv hgv W26 Bv hb_; have wgv : W24.heap.size ≤ gv := Nat.le_trans HC.size (Nat.le_of_eq hgv.symm); have lqv : gq < gv := (by rw [hgv]; exact blk_lt Bq); replace HC := HC.trans (hb_.mono HC.size); replace Bq := blk_below Bq hb_; (try clear pq0_); (try clear zpq0_); (try clear pq1_); (try clear zpq1_); (try clear pq2_); (try clear zpq2_); have pq0_ : W26.cell? ⟨gq, 0, none⟩ = some (.int .i64 0) := (blk_cell Bq 0).trans rfl; have zpq0_ := blk_frozen Bq 0; have pq1_ : W26.cell? ⟨gq, 1, none⟩ = some (.slice none 0 0) := (blk_cell Bq 1).trans rfl; have zpq1_ := blk_frozen Bq 1; have pq2_ : W26.cell? ⟨gq, 2, none⟩ = some (.slice none 0 0) := (blk_cell Bq 2).trans rfl; have zpq2_ := blk_frozen Bq 2; clear hgv hb_; have pv0_ : W26.cell? ⟨gv, 0, none⟩ = some (.int .u32 0) := (blk_cell Bv 0).trans rfl; have zpv0_ := blk_frozen Bv 0; have pv1_ : W26.cell? ⟨gv, 1, none⟩ = some (.slice none 0 0) := (blk_cell Bv 1).trans rfl; have zpv1_ := blk_frozen Bv 1) | ((with_reducible refine gate_store (t := 25) (p := 19) rfl ?_); refine store_event (t := 25) (p := 19) (v := ?vo19_) (w1 := (((W26.setCell ⟨gq, 0, none⟩ (.int .i64 rb1)).setCell ⟨gq, 1, none⟩ (.slice Ay1 rb2.length cy1)).setCell ⟨gq, 2, none⟩ (.slice Ay2 rb3.length cy2))) ?hg ?ho ?hn ?hr ?_; (case ho => rfl); (case hg => rfl); (case hn => rfl); (case hr => first | (go_simp; done) | (go_simp; rfl)); intro W27 hw; have B_ := (by rw [hw]; exact bp3_ Bq : W27.heap[gq]? = some (.cells #[.int .i64 rb1, .slice Ay1 rb2.length cy1, .slice Ay2 rb3.length cy2] 25 (0, 0))); have HC_ := (by rw [hw]; exact (below_set (below_set (below_set HC wgq) wgq) wgq) : Below W24.heap.size W24 W27); have O_ := (by rw [hw]; exact bf3_ Bv (Nat.ne_of_gt lqv) : W27.heap[gv]? = some (.cells #[.int .u32 0, .slice none 0 0] 29 (0, 0))); clear hw HC Bq; have HC := HC_; have Bq := B_; clear HC_ B_; (try clear pq0_); (try clear zpq0_); (try clear pq1_); (try clear zpq1_); (try clear pq2_); (try clear zpq2_); clear Bv; have Bv := O_; clear O_; (try clear pv0_); (try clear zpv0_); (try clear pv1_); (try clear zpv1_); (try clear pv2_); (try clear zpv2_); have pv0_ : W27.cell? ⟨gv, 0, none⟩ = some (.int .u32 0) := (blk_cell Bv 0).trans rfl; have zpv0_ := blk_frozen Bv 0; have pv1_ : W27.cell? ⟨gv, 1, none⟩ = some (.slice none 0 0) := (blk_cell Bv 1).trans rfl; have zpv1_ := blk_frozen Bv 1; skip) | ((with_reducible refine gate_store (t := 29) (p := 20) rfl ?_); refine store_event (t := 29) (p := 20) (v := ?vo20_) (w1 := ((W27.setCell ⟨gv, 0, none⟩ (.int .u32 rb4)).setCell ⟨gv, 1, none⟩ (.slice Ay4 rb5.length cy4))) ?hg ?ho ?hn ?hr ?_; (case ho => rfl); (case hg => rfl); (case hn => rfl); (case hr => first | (go_simp; done) | (go_simp; rfl)); intro W270 hw; have B_ := (by rw [hw]; exact bp2_ Bv : W270.heap[gv]? = some (.cells #[.int .u32 rb4, .slice Ay4 rb5.length cy4] 29 (0, 0))); have HC_ := (by rw [hw]; exact (below_set (below_set HC wgv) wgv) : Below W24.heap.size W24 W270); have O_ := (by rw [hw]; exact bf2_ Bq (Nat.ne_of_lt lqv) : W270.heap[gq]? = some (.cells #[.int .i64 rb1, .slice Ay1 rb2.length cy1, .slice Ay2 rb3.length cy2] 25 (0, 0))); clear hw HC Bv; have HC := HC_; have Bv := B_; clear HC_ B_; (try clear pv0_); (try clear zpv0_); (try clear pv1_); (try clear zpv1_); (try clear pv2_); (try clear zpv2_); clear Bq; have Bq := O_; clear O_; (try clear pq0_); (try clear zpq0_); (try clear pq1_); (try clear zpq1_); (try clear pq2_); (try clear zpq2_); have pq0_ : W270.cell? ⟨gq, 0, none⟩ = some (.int .i64 rb1) := (blk_cell Bq 0).trans rfl; have zpq0_ := blk_frozen Bq 0; have pq1_ : W270.cell? ⟨gq, 1, none⟩ = some (.slice Ay1 rb2.length cy1) := (blk_cell Bq 1).trans rfl; have zpq1_ := blk_frozen Bq 1; have pq2_ : W270.cell? ⟨gq, 2, none⟩ = some (.slice Ay2 rb3.length cy2) := (blk_cell Bq 2).trans rfl; have zpq2_ := blk_frozen Bq 2; clear Bv; have NY := (⟨Bq, (by have := HC.size; omega), fun h0 => ⟨Kd.V_below (hV (by first | exact h0 | trivial)).1 HC, Kd.V_below (hV (by first | exact h0 | trivial)).2 HC⟩⟩ : kk.NB W270 g gq 0 rb1 Ay1 cy1 rb2 Ay2 cy2 rb3); replace PP := PP.below HC; replace NA := NA.below HC; replace NB := NB.below HC; replace NC := NC.below HC; replace NX := NX.below HC; have hgW := Nat.lt_of_lt_of_le hgW HC.size; clear HC Bq hV; (try clear pq0_); (try clear zpq0_); (try clear pq1_); (try clear zpq1_); (try clear pq2_); (try clear zpq2_); have k0_ : W270.cell? ⟨gb, 0, none⟩ = some (.int .i64 a0_0) := (blk_cell PP.bk 0).trans rfl; have zk0_ := blk_frozen PP.bk 0; have k1_ : W270.cell? ⟨gb, 1, none⟩ = some (.slice A0_1 l0_1.length c0_1) := (blk_cell PP.bk 1).trans rfl; have zk1_ := blk_frozen PP.bk 1; have k2_ : W270.cell? ⟨gb, 2, none⟩ = some (.slice A0_2 l0_2.length c0_2) := (blk_cell PP.bk 2).trans rfl; have zk2_ := blk_frozen PP.bk 2; have kg0_ : W270.cell? ⟨gg, 0, none⟩ = some (.int .u32 a1_0) := (blk_cell PP.bg 0).trans rfl; have zkg0_ := blk_frozen PP.bg 0; have kg1_ : W270.cell? ⟨gg, 1, none⟩ = some (.slice A1_1 l1_1.length c1_1) := (blk_cell PP.bg 1).trans rfl; have zkg1_ := blk_frozen PP.bg 1))
        refine (chamberlainref06_Double.calls a0_0 (fun k => k < w.heap.size) A0_1 c0_1 l0_1 (fun k => k < w.heap.size) A0_2 c0_2 l0_2 a2 rc1 rc2 rc3 rc4 _ (Kd.V_mk hc0_1 (Kd.F_below F1 PP.hb)) (Kd.V_mk hc0_2 (Kd.F_below F2 PP.hb)) AZ.out).mono ?_
        rintro e W28 ⟨_, _, rfl, hX1, hX2, hb28⟩
        obtain ⟨Az1, cz1, rfl⟩ := Kd.V_slice hX1
        obtain ⟨Az2, cz2, rfl⟩ := Kd.V_slice hX2
        have hV : (0 : Int) = 0 → Kd.V k29 29 W28 0 (fun k => k ≠ g) (.slice Az1 rc2.length cz1) rc2 ∧ Kd.V (Kd.slice 26 (Kd.int .u32)) 27 W28 0 (fun k => k ≠ g) (.slice Az2 rc3.length cz2) rc3 := fun _ => ⟨Kd.V_mono hX1 (fun k hk e_ => by omega), Kd.V_mono hX2 (fun k hk e_ => by omega)⟩
        replace hgW := Nat.lt_of_lt_of_le hgW hb28.size
        replace PP := PP.below hb28
        replace NA := NA.below hb28
        replace NB := NB.below hb28
        replace NC := NC.below hb28
        replace NX := NX.below hb28
        replace NY := NY.below hb28
        clear hX1 hX2 hb28
        (try clear k0_); (try clear zk0_); (try clear k1_); (try clear zk1_); (try clear k2_); (try clear zk2_); (try clear kg0_); (try clear zkg0_); (try clear kg1_); (try clear zkg1_); (try clear kg2_); (try clear zkg2_)
        by_cases e_ : ra4 = 0
        · have zEA1 : (ra4 == 0) = true := beq_iff_eq.mpr e_
          have zEA2 : (ra4 != 0) = false := bne_eq_false_iff_eq.mpr e_
          have EA := Aside0.mk e_
          clear e_
          by_cases e_ : rb6 = 0
          · have zEB1 : (rb6 == 0) = true := beq_iff_eq.mpr e_
            have zEB2 : (rb6 != 0) = false := bne_eq_false_iff_eq.mpr e_
            have EB := Aside0.mk e_
            clear e_
            by_cases e_ : rc4 = 0
            · have zEC1 : (rc4 == 0) = true := beq_iff_eq.mpr e_
              have zEC2 : (rc4 != 0) = false := bne_eq_false_iff_eq.mpr e_
              have EC := Aside0.mk e_
              clear e_
              go_wp2_with (first | ((with_reducible refine gate_dst (N := 22) rfl ?_); refine box_event ?hg (N := 22) ?hd (cs := #[.int .i64 0, .slice none 0 0, .slice none 0 0]) (t := 25) ?hr ?_; (case hd => rfl); (case hg => rfl); (case hr => first | (go_simp; done) | (go_simp; rfl)); intro gr hgr W29 Br hb_; have wgr : W28.heap.size ≤ gr := Nat.le_of_eq hgr.symm; have HC : Below W28.heap.size W28 W29 := hb_; clear hgr hb_; have pr0_ : W29.cell? ⟨gr, 0, none⟩ = some (.int .i64 0) := (blk_cell Br 0).trans rfl; have zpr0_ := blk_frozen Br 0; have pr1_ : W29.cell? ⟨gr, 1, none⟩ = some (.slice none 0 0) := (blk_cell Br 1).trans rfl; have zpr1_ := blk_frozen Br 1; have pr2_ : W29.cell? ⟨gr, 2, none⟩ = some (.slice none 0 0) := (blk_cell Br 2).trans rfl; have zpr2_ := blk_frozen Br 2) | ((with_reducible refine gate_store (t := 25) (p := 22) rfl ?_); refine store_event (t := 25) (p := 22) (v := ?vo22_) (w1 := (((W29.setCell ⟨gr, 0, none⟩ (.int .i64 rc1)).setCell ⟨gr, 1, none⟩ (.slice Az1 rc2.length cz1)).setCell ⟨gr, 2, none⟩ (.slice Az2 rc3.length cz2))) ?hg ?ho ?hn ?hr ?_; (case ho => rfl); (case hg => rfl); (case hn => rfl); (case hr => first | (go_simp; done) | (go_simp; rfl)); intro W30 hw; have B_ := (by rw [hw]; exact bp3_ Br : W30.heap[gr]? = some (.cells #[.int .i64 rc1, .slice Az1 rc2.length cz1, .slice Az2 rc3.length cz2] 25 (0, 0))); have HC_ := (by rw [hw]; exact (below_set (below_set (below_set HC wgr) wgr) wgr) : Below W28.heap.size W28 W30); clear hw HC Br; have HC := HC_; have Br := B_; clear HC_ B_; (try clear pr0_); (try clear zpr0_); (try clear pr1_); (try clear zpr1_); (try clear pr2_); (try clear zpr2_); have NZ := (⟨Br, (by have := HC.size; omega), fun h0 => ⟨Kd.V_below (hV (by first | exact h0 | trivial)).1 HC, Kd.V_below (hV (by first | exact h0 | trivial)).2 HC⟩⟩ : kk.NB W30 g gr 0 rc1 Az1 cz1 rc2 Az2 cz2 rc3); replace PP := PP.below HC; replace NA := NA.below HC; replace NB := NB.below HC; replace NC := NC.below HC; replace NX := NX.below HC; replace NY := NY.below HC; have hgW := Nat.lt_of_lt_of_le hgW HC.size; clear HC Br hV; (try clear pr0_); (try clear zpr0_); (try clear pr1_); (try clear zpr1_); (try clear pr2_); (try clear zpr2_); have ka0_ : W30.cell? ⟨ga, 0, none⟩ = some (.int .i64 ra1) := (blk_cell NA.b 0).trans rfl; have zka0_ := blk_frozen NA.b 0; have ka1_ : W30.cell? ⟨ga, 1, none⟩ = some (.slice Aa1 ra2.length ca1) := (blk_cell NA.b 1).trans rfl; have zka1_ := blk_frozen NA.b 1; have ka2_ : W30.cell? ⟨ga, 2, none⟩ = some (.slice Aa2 ra3.length ca2) := (blk_cell NA.b 2).trans rfl; have zka2_ := blk_frozen NA.b 2; have kt0_ : W30.cell? ⟨gt, 0, none⟩ = some (.int .i64 rb1) := (blk_cell NB.b 0).trans rfl; have zkt0_ := blk_frozen NB.b 0; have kt1_ : W30.cell? ⟨gt, 1, none⟩ = some (.slice Ab1 rb2.length cb1) := (blk_cell NB.b 1).trans rfl; have zkt1_ := blk_frozen NB.b 1; have kt2_ : W30.cell? ⟨gt, 2, none⟩ = some (.slice Ab2 rb3.length cb2) := (blk_cell NB.b 2).trans rfl; have zkt2_ := blk_frozen NB.b 2; have kc0_ : W30.cell? ⟨gc, 0, none⟩ = some (.int .i64 rc1) := (blk_cell NC.b 0).trans rfl; have zkc0_ := blk_frozen NC.b 0; have kc1_ : W30.cell? ⟨gc, 1, none⟩ = some (.slice Ac1 rc2.length cc1) := (blk_cell NC.b 1).trans rfl; have zkc1_ := blk_frozen NC.b 1; have kc2_ : W30.cell? ⟨gc, 2, none⟩ = some (.slice Ac2 rc3.length cc2) := (blk_cell NC.b 2).trans rfl; have zkc2_ := blk_frozen NC.b 2; have kp0_ : W30.cell? ⟨gp, 0, none⟩ = some (.int .i64 ra1) := (blk_cell NX.b 0).trans rfl; have zkp0_ := blk_frozen NX.b 0; have kp1_ : W30.cell? ⟨gp, 1, none⟩ = some (.slice Ax1 ra2.length cx1) := (blk_cell NX.b 1).trans rfl; have zkp1_ := blk_frozen NX.b 1; have kp2_ : W30.cell? ⟨gp, 2, none⟩ = some (.slice Ax2 ra3.length cx2) := (blk_cell NX.b 2).trans rfl; have zkp2_ := blk_frozen NX.b 2; have kq0_ : W30.cell? ⟨gq, 0, none⟩ = some (.int .i64 rb1) := (blk_cell NY.b 0).trans rfl; have zkq0_ := blk_frozen NY.b 0; have kq1_ : W30.cell? ⟨gq, 1, none⟩ = some (.slice Ay1 rb2.length cy1) := (blk_cell NY.b 1).trans rfl; have zkq1_ := blk_frozen NY.b 1; have kq2_ : W30.cell? ⟨gq, 2, none⟩ = some (.slice Ay2 rb3.length cy2) := (blk_cell NY.b 2).trans rfl; have zkq2_ := blk_frozen NY.b 2; have kr0_ : W30.cell? ⟨gr, 0, none⟩ = some (.int .i64 rc1) := (blk_cell NZ.b 0).trans rfl; have zkr0_ := blk_frozen NZ.b 0; have kr1_ : W30.cell? ⟨gr, 1, none⟩ = some (.slice Az1 rc2.length cz1) := (blk_cell NZ.b 1).trans rfl; have zkr1_ := blk_frozen NZ.b 1; have kr2_ : W30.cell? ⟨gr, 2, none⟩ = some (.slice Az2 rc3.length cz2) := (blk_cell NZ.b 2).trans rfl; have zkr2_ := blk_frozen NZ.b 2) | (go_at_call 18; (with_reducible refine (chamberlainref06_Same.calls 3000 ra1 Aa1 ca1 ra2 Aa2 ca2 ra3 ra1 Ax1 cx1 ra2 Ax2 cx2 ra3 true _ (Kd.V_reads' (NA.v EA.out).1).2.2 (Kd.V_reads' (NA.v EA.out).1).2.1 (Kd.V_reads' (NA.v EA.out).2).2.2 (Kd.V_reads' (NA.v EA.out).2).2.1 (Kd.V_reads' (NX.v rfl).1).2.2 (Kd.V_reads' (NX.v rfl).1).2.1 (Kd.V_reads' (NX.v rfl).2).2.2 (Kd.V_reads' (NX.v rfl).2).2.1 ASa.out).mono ?_); rintro e W31 ⟨rfl, hb_⟩; replace PP := PP.below hb_; replace NB := NB.below hb_; replace NY := NY.below hb_; replace NC := NC.below hb_; replace NZ := NZ.below hb_; clear hb_; (try clear ka0_); (try clear zka0_); (try clear ka1_); (try clear zka1_); (try clear ka2_); (try clear zka2_); (try clear kt0_); (try clear zkt0_); (try clear kt1_); (try clear zkt1_); (try clear kt2_); (try clear zkt2_); (try clear kc0_); (try clear zkc0_); (try clear kc1_); (try clear zkc1_); (try clear kc2_); (try clear zkc2_); (try clear kp0_); (try clear zkp0_); (try clear kp1_); (try clear zkp1_); (try clear kp2_); (try clear zkp2_); (try clear kq0_); (try clear zkq0_); (try clear kq1_); (try clear zkq1_); (try clear kq2_); (try clear zkq2_); (try clear kr0_); (try clear zkr0_); (try clear kr1_); (try clear zkr1_); (try clear kr2_); (try clear zkr2_); have kt0_ : W31.cell? ⟨gt, 0, none⟩ = some (.int .i64 rb1) := (blk_cell NB.b 0).trans rfl; have zkt0_ := blk_frozen NB.b 0; have kt1_ : W31.cell? ⟨gt, 1, none⟩ = some (.slice Ab1 rb2.length cb1) := (blk_cell NB.b 1).trans rfl; have zkt1_ := blk_frozen NB.b 1; have kt2_ : W31.cell? ⟨gt, 2, none⟩ = some (.slice Ab2 rb3.length cb2) := (blk_cell NB.b 2).trans rfl; have zkt2_ := blk_frozen NB.b 2; have kq0_ : W31.cell? ⟨gq, 0, none⟩ = some (.int .i64 rb1) := (blk_cell NY.b 0).trans rfl; have zkq0_ := blk_frozen NY.b 0; have kq1_ : W31.cell? ⟨gq, 1, none⟩ = some (.slice Ay1 rb2.length cy1) := (blk_cell NY.b 1).trans rfl; have zkq1_ := blk_frozen NY.b 1; have kq2_ : W31.cell? ⟨gq, 2, none⟩ = some (.slice Ay2 rb3.length cy2) := (blk_cell NY.b 2).trans rfl; have zkq2_ := blk_frozen NY.b 2; have kc0_ : W31.cell? ⟨gc, 0, none⟩ = some (.int .i64 rc1) := (blk_cell NC.b 0).trans rfl; have zkc0_ := blk_frozen NC.b 0; have kc1_ : W31.cell? ⟨gc, 1, none⟩ = some (.slice Ac1 rc2.length cc1) := (blk_cell NC.b 1).trans rfl; have zkc1_ := blk_frozen NC.b 1; have kc2_ : W31.cell? ⟨gc, 2, none⟩ = some (.slice Ac2 rc3.length cc2) := (blk_cell NC.b 2).trans rfl; have zkc2_ := blk_frozen NC.b 2; have kr0_ : W31.cell? ⟨gr, 0, none⟩ = some (.int .i64 rc1) := (blk_cell NZ.b 0).trans rfl; have zkr0_ := blk_frozen NZ.b 0; have kr1_ : W31.cell? ⟨gr, 1, none⟩ = some (.slice Az1 rc2.length cz1) := (blk_cell NZ.b 1).trans rfl; have zkr1_ := blk_frozen NZ.b 1; have kr2_ : W31.cell? ⟨gr, 2, none⟩ = some (.slice Az2 rc3.length cz2) := (blk_cell NZ.b 2).trans rfl; have zkr2_ := blk_frozen NZ.b 2) | (go_at_call 18; (with_reducible refine (chamberlainref06_Same.calls 3000 rb1 Ab1 cb1 rb2 Ab2 cb2 rb3 rb1 Ay1 cy1 rb2 Ay2 cy2 rb3 true _ (Kd.V_reads' (NB.v EB.out).1).2.2 (Kd.V_reads' (NB.v EB.out).1).2.1 (Kd.V_reads' (NB.v EB.out).2).2.2 (Kd.V_reads' (NB.v EB.out).2).2.1 (Kd.V_reads' (NY.v rfl).1).2.2 (Kd.V_reads' (NY.v rfl).1).2.1 (Kd.V_reads' (NY.v rfl).2).2.2 (Kd.V_reads' (NY.v rfl).2).2.1 ASb.out).mono ?_); rintro e W32 ⟨rfl, hb_⟩; replace PP := PP.below hb_; replace NC := NC.below hb_; replace NZ := NZ.below hb_; clear hb_; (try clear ka0_); (try clear zka0_); (try clear ka1_); (try clear zka1_); (try clear ka2_); (try clear zka2_); (try clear kt0_); (try clear zkt0_); (try clear kt1_); (try clear zkt1_); (try clear kt2_); (try clear zkt2_); (try clear kc0_); (try clear zkc0_); (try clear kc1_); (try clear zkc1_); (try clear kc2_); (try clear zkc2_); (try clear kp0_); (try clear zkp0_); (try clear kp1_); (try clear zkp1_); (try clear kp2_); (try clear zkp2_); (try clear kq0_); (try clear zkq0_); (try clear kq1_); (try clear zkq1_); (try clear kq2_); (try clear zkq2_); (try clear kr0_); (try clear zkr0_); (try clear kr1_); (try clear zkr1_); (try clear kr2_); (try clear zkr2_); have kc0_ : W32.cell? ⟨gc, 0, none⟩ = some (.int .i64 rc1) := (blk_cell NC.b 0).trans rfl; have zkc0_ := blk_frozen NC.b 0; have kc1_ : W32.cell? ⟨gc, 1, none⟩ = some (.slice Ac1 rc2.length cc1) := (blk_cell NC.b 1).trans rfl; have zkc1_ := blk_frozen NC.b 1; have kc2_ : W32.cell? ⟨gc, 2, none⟩ = some (.slice Ac2 rc3.length cc2) := (blk_cell NC.b 2).trans rfl; have zkc2_ := blk_frozen NC.b 2; have kr0_ : W32.cell? ⟨gr, 0, none⟩ = some (.int .i64 rc1) := (blk_cell NZ.b 0).trans rfl; have zkr0_ := blk_frozen NZ.b 0; have kr1_ : W32.cell? ⟨gr, 1, none⟩ = some (.slice Az1 rc2.length cz1) := (blk_cell NZ.b 1).trans rfl; have zkr1_ := blk_frozen NZ.b 1; have kr2_ : W32.cell? ⟨gr, 2, none⟩ = some (.slice Az2 rc3.length cz2) := (blk_cell NZ.b 2).trans rfl; have zkr2_ := blk_frozen NZ.b 2) | (go_at_call 18; (with_reducible refine (chamberlainref06_Same.calls 3000 rc1 Ac1 cc1 rc2 Ac2 cc2 rc3 rc1 Az1 cz1 rc2 Az2 cz2 rc3 true _ (Kd.V_reads' (NC.v EC.out).1).2.2 (Kd.V_reads' (NC.v EC.out).1).2.1 (Kd.V_reads' (NC.v EC.out).2).2.2 (Kd.V_reads' (NC.v EC.out).2).2.1 (Kd.V_reads' (NZ.v rfl).1).2.2 (Kd.V_reads' (NZ.v rfl).1).2.1 (Kd.V_reads' (NZ.v rfl).2).2.2 (Kd.V_reads' (NZ.v rfl).2).2.1 ASc.out).mono ?_); rintro e W33 ⟨rfl, hb_⟩; replace PP := PP.below hb_; clear hb_; (try clear ka0_); (try clear zka0_); (try clear ka1_); (try clear zka1_); (try clear ka2_); (try clear zka2_); (try clear kt0_); (try clear zkt0_); (try clear kt1_); (try clear zkt1_); (try clear kt2_); (try clear zkt2_); (try clear kc0_); (try clear zkc0_); (try clear kc1_); (try clear zkc1_); (try clear kc2_); (try clear zkc2_); (try clear kp0_); (try clear zkp0_); (try clear kp1_); (try clear zkp1_); (try clear kp2_); (try clear zkp2_); (try clear kq0_); (try clear zkq0_); (try clear kq1_); (try clear zkq1_); (try clear kq2_); (try clear zkq2_); (try clear kr0_); (try clear zkr0_); (try clear kr1_); (try clear zkr1_); (try clear kr2_); (try clear zkr2_)))
              go_ret
              exact ⟨by first | rfl | (simp; done) | (simp [*]; done), PP.hb⟩
            · have zEC1 : (rc4 == 0) = false := beq_eq_false_iff_ne.mpr e_
              have zEC2 : (rc4 != 0) = true := bne_iff_ne.mpr e_
              skip
              clear e_
              go_wp2_with (first | ((with_reducible refine gate_dst (N := 22) rfl ?_); refine box_event ?hg (N := 22) ?hd (cs := #[.int .i64 0, .slice none 0 0, .slice none 0 0]) (t := 25) ?hr ?_; (case hd => rfl); (case hg => rfl); (case hr => first | (go_simp; done) | (go_simp; rfl)); intro gr hgr W29 Br hb_; have wgr : W28.heap.size ≤ gr := Nat.le_of_eq hgr.symm; have HC : Below W28.heap.size W28 W29 := hb_; clear hgr hb_; have pr0_ : W29.cell? ⟨gr, 0, none⟩ = some (.int .i64 0) := (blk_cell Br 0).trans rfl; have zpr0_ := blk_frozen Br 0; have pr1_ : W29.cell? ⟨gr, 1, none⟩ = some (.slice none 0 0) := (blk_cell Br 1).trans rfl; have zpr1_ := blk_frozen Br 1; have pr2_ : W29.cell? ⟨gr, 2, none⟩ = some (.slice none 0 0) := (blk_cell Br 2).trans rfl; have zpr2_ := blk_frozen Br 2) | ((with_reducible refine gate_store (t := 25) (p := 22) rfl ?_); refine store_event (t := 25) (p := 22) (v := ?vo22_) (w1 := (((W29.setCell ⟨gr, 0, none⟩ (.int .i64 rc1)).setCell ⟨gr, 1, none⟩ (.slice Az1 rc2.length cz1)).setCell ⟨gr, 2, none⟩ (.slice Az2 rc3.length cz2))) ?hg ?ho ?hn ?hr ?_; (case ho => rfl); (case hg => rfl); (case hn => rfl); (case hr => first | (go_simp; done) | (go_simp; rfl)); intro W30 hw; have B_ := (by rw [hw]; exact bp3_ Br : W30.heap[gr]? = some (.cells #[.int .i64 rc1, .slice Az1 rc2.length cz1, .slice Az2 rc3.length cz2] 25 (0, 0))); have HC_ := (by rw [hw]; exact (below_set (below_set (below_set HC wgr) wgr) wgr) : Below W28.heap.size W28 W30); clear hw HC Br; have HC := HC_; have Br := B_; clear HC_ B_; (try clear pr0_); (try clear zpr0_); (try clear pr1_); (try clear zpr1_); (try clear pr2_); (try clear zpr2_); have NZ := (⟨Br, (by have := HC.size; omega), fun h0 => ⟨Kd.V_below (hV (by first | exact h0 | trivial)).1 HC, Kd.V_below (hV (by first | exact h0 | trivial)).2 HC⟩⟩ : kk.NB W30 g gr 0 rc1 Az1 cz1 rc2 Az2 cz2 rc3); replace PP := PP.below HC; replace NA := NA.below HC; replace NB := NB.below HC; replace NC := NC.below HC; replace NX := NX.below HC; replace NY := NY.below HC; have hgW := Nat.lt_of_lt_of_le hgW HC.size; clear HC Br hV; (try clear pr0_); (try clear zpr0_); (try clear pr1_); (try clear zpr1_); (try clear pr2_); (try clear zpr2_); have ka0_ : W30.cell? ⟨ga, 0, none⟩ = some (.int .i64 ra1) := (blk_cell NA.b 0).trans rfl; have zka0_ := blk_frozen NA.b 0; have ka1_ : W30.cell? ⟨ga, 1, none⟩ = some (.slice Aa1 ra2.length ca1) := (blk_cell NA.b 1).trans rfl; have zka1_ := blk_frozen NA.b 1; have ka2_ : W30.cell? ⟨ga, 2, none⟩ = some (.slice Aa2 ra3.length ca2) := (blk_cell NA.b 2).trans rfl; have zka2_ := blk_frozen NA.b 2; have kt0_ : W30.cell? ⟨gt, 0, none⟩ = some (.int .i64 rb1) := (blk_cell NB.b 0).trans rfl; have zkt0_ := blk_frozen NB.b 0; have kt1_ : W30.cell? ⟨gt, 1, none⟩ = some (.slice Ab1 rb2.length cb1) := (blk_cell NB.b 1).trans rfl; have zkt1_ := blk_frozen NB.b 1; have kt2_ : W30.cell? ⟨gt, 2, none⟩ = some (.slice Ab2 rb3.length cb2) := (blk_cell NB.b 2).trans rfl; have zkt2_ := blk_frozen NB.b 2; have kc0_ : W30.cell? ⟨gc, 0, none⟩ = some (.int .i64 rc1) := (blk_cell NC.b 0).trans rfl; have zkc0_ := blk_frozen NC.b 0; have kc1_ : W30.cell? ⟨gc, 1, none⟩ = some (.slice Ac1 rc2.length cc1) := (blk_cell NC.b 1).trans rfl; have zkc1_ := blk_frozen NC.b 1; have kc2_ : W30.cell? ⟨gc, 2, none⟩ = some (.slice Ac2 rc3.length cc2) := (blk_cell NC.b 2).trans rfl; have zkc2_ := blk_frozen NC.b 2; have kp0_ : W30.cell? ⟨gp, 0, none⟩ = some (.int .i64 ra1) := (blk_cell NX.b 0).trans rfl; have zkp0_ := blk_frozen NX.b 0; have kp1_ : W30.cell? ⟨gp, 1, none⟩ = some (.slice Ax1 ra2.length cx1) := (blk_cell NX.b 1).trans rfl; have zkp1_ := blk_frozen NX.b 1; have kp2_ : W30.cell? ⟨gp, 2, none⟩ = some (.slice Ax2 ra3.length cx2) := (blk_cell NX.b 2).trans rfl; have zkp2_ := blk_frozen NX.b 2; have kq0_ : W30.cell? ⟨gq, 0, none⟩ = some (.int .i64 rb1) := (blk_cell NY.b 0).trans rfl; have zkq0_ := blk_frozen NY.b 0; have kq1_ : W30.cell? ⟨gq, 1, none⟩ = some (.slice Ay1 rb2.length cy1) := (blk_cell NY.b 1).trans rfl; have zkq1_ := blk_frozen NY.b 1; have kq2_ : W30.cell? ⟨gq, 2, none⟩ = some (.slice Ay2 rb3.length cy2) := (blk_cell NY.b 2).trans rfl; have zkq2_ := blk_frozen NY.b 2; have kr0_ : W30.cell? ⟨gr, 0, none⟩ = some (.int .i64 rc1) := (blk_cell NZ.b 0).trans rfl; have zkr0_ := blk_frozen NZ.b 0; have kr1_ : W30.cell? ⟨gr, 1, none⟩ = some (.slice Az1 rc2.length cz1) := (blk_cell NZ.b 1).trans rfl; have zkr1_ := blk_frozen NZ.b 1; have kr2_ : W30.cell? ⟨gr, 2, none⟩ = some (.slice Az2 rc3.length cz2) := (blk_cell NZ.b 2).trans rfl; have zkr2_ := blk_frozen NZ.b 2) | (go_at_call 18; (with_reducible refine (chamberlainref06_Same.calls 3000 ra1 Aa1 ca1 ra2 Aa2 ca2 ra3 ra1 Ax1 cx1 ra2 Ax2 cx2 ra3 true _ (Kd.V_reads' (NA.v EA.out).1).2.2 (Kd.V_reads' (NA.v EA.out).1).2.1 (Kd.V_reads' (NA.v EA.out).2).2.2 (Kd.V_reads' (NA.v EA.out).2).2.1 (Kd.V_reads' (NX.v rfl).1).2.2 (Kd.V_reads' (NX.v rfl).1).2.1 (Kd.V_reads' (NX.v rfl).2).2.2 (Kd.V_reads' (NX.v rfl).2).2.1 ASa.out).mono ?_); rintro e W31 ⟨rfl, hb_⟩; replace PP := PP.below hb_; replace NB := NB.below hb_; replace NY := NY.below hb_; replace NC := NC.below hb_; replace NZ := NZ.below hb_; clear hb_; (try clear ka0_); (try clear zka0_); (try clear ka1_); (try clear zka1_); (try clear ka2_); (try clear zka2_); (try clear kt0_); (try clear zkt0_); (try clear kt1_); (try clear zkt1_); (try clear kt2_); (try clear zkt2_); (try clear kc0_); (try clear zkc0_); (try clear kc1_); (try clear zkc1_); (try clear kc2_); (try clear zkc2_); (try clear kp0_); (try clear zkp0_); (try clear kp1_); (try clear zkp1_); (try clear kp2_); (try clear zkp2_); (try clear kq0_); (try clear zkq0_); (try clear kq1_); (try clear zkq1_); (try clear kq2_); (try clear zkq2_); (try clear kr0_); (try clear zkr0_); (try clear kr1_); (try clear zkr1_); (try clear kr2_); (try clear zkr2_); have kt0_ : W31.cell? ⟨gt, 0, none⟩ = some (.int .i64 rb1) := (blk_cell NB.b 0).trans rfl; have zkt0_ := blk_frozen NB.b 0; have kt1_ : W31.cell? ⟨gt, 1, none⟩ = some (.slice Ab1 rb2.length cb1) := (blk_cell NB.b 1).trans rfl; have zkt1_ := blk_frozen NB.b 1; have kt2_ : W31.cell? ⟨gt, 2, none⟩ = some (.slice Ab2 rb3.length cb2) := (blk_cell NB.b 2).trans rfl; have zkt2_ := blk_frozen NB.b 2; have kq0_ : W31.cell? ⟨gq, 0, none⟩ = some (.int .i64 rb1) := (blk_cell NY.b 0).trans rfl; have zkq0_ := blk_frozen NY.b 0; have kq1_ : W31.cell? ⟨gq, 1, none⟩ = some (.slice Ay1 rb2.length cy1) := (blk_cell NY.b 1).trans rfl; have zkq1_ := blk_frozen NY.b 1; have kq2_ : W31.cell? ⟨gq, 2, none⟩ = some (.slice Ay2 rb3.length cy2) := (blk_cell NY.b 2).trans rfl; have zkq2_ := blk_frozen NY.b 2; have kc0_ : W31.cell? ⟨gc, 0, none⟩ = some (.int .i64 rc1) := (blk_cell NC.b 0).trans rfl; have zkc0_ := blk_frozen NC.b 0; have kc1_ : W31.cell? ⟨gc, 1, none⟩ = some (.slice Ac1 rc2.length cc1) := (blk_cell NC.b 1).trans rfl; have zkc1_ := blk_frozen NC.b 1; have kc2_ : W31.cell? ⟨gc, 2, none⟩ = some (.slice Ac2 rc3.length cc2) := (blk_cell NC.b 2).trans rfl; have zkc2_ := blk_frozen NC.b 2; have kr0_ : W31.cell? ⟨gr, 0, none⟩ = some (.int .i64 rc1) := (blk_cell NZ.b 0).trans rfl; have zkr0_ := blk_frozen NZ.b 0; have kr1_ : W31.cell? ⟨gr, 1, none⟩ = some (.slice Az1 rc2.length cz1) := (blk_cell NZ.b 1).trans rfl; have zkr1_ := blk_frozen NZ.b 1; have kr2_ : W31.cell? ⟨gr, 2, none⟩ = some (.slice Az2 rc3.length cz2) := (blk_cell NZ.b 2).trans rfl; have zkr2_ := blk_frozen NZ.b 2) | (go_at_call 18; (with_reducible refine (chamberlainref06_Same.calls 3000 rb1 Ab1 cb1 rb2 Ab2 cb2 rb3 rb1 Ay1 cy1 rb2 Ay2 cy2 rb3 true _ (Kd.V_reads' (NB.v EB.out).1).2.2 (Kd.V_reads' (NB.v EB.out).1).2.1 (Kd.V_reads' (NB.v EB.out).2).2.2 (Kd.V_reads' (NB.v EB.out).2).2.1 (Kd.V_reads' (NY.v rfl).1).2.2 (Kd.V_reads' (NY.v rfl).1).2.1 (Kd.V_reads' (NY.v rfl).2).2.2 (Kd.V_reads' (NY.v rfl).2).2.1 ASb.out).mono ?_); rintro e W32 ⟨rfl, hb_⟩; replace PP := PP.below hb_; replace NC := NC.below hb_; replace NZ := NZ.below hb_; clear hb_; (try clear ka0_); (try clear zka0_); (try clear ka1_); (try clear zka1_); (try clear ka2_); (try clear zka2_); (try clear kt0_); (try clear zkt0_); (try clear kt1_); (try clear zkt1_); (try clear kt2_); (try clear zkt2_); (try clear kc0_); (try clear zkc0_); (try clear kc1_); (try clear zkc1_); (try clear kc2_); (try clear zkc2_); (try clear kp0_); (try clear zkp0_); (try clear kp1_); (try clear zkp1_); (try clear kp2_); (try clear zkp2_); (try clear kq0_); (try clear zkq0_); (try clear kq1_); (try clear zkq1_); (try clear kq2_); (try clear zkq2_); (try clear kr0_); (try clear zkr0_); (try clear kr1_); (try clear zkr1_); (try clear kr2_); (try clear zkr2_); have kc0_ : W32.cell? ⟨gc, 0, none⟩ = some (.int .i64 rc1) := (blk_cell NC.b 0).trans rfl; have zkc0_ := blk_frozen NC.b 0; have kc1_ : W32.cell? ⟨gc, 1, none⟩ = some (.slice Ac1 rc2.length cc1) := (blk_cell NC.b 1).trans rfl; have zkc1_ := blk_frozen NC.b 1; have kc2_ : W32.cell? ⟨gc, 2, none⟩ = some (.slice Ac2 rc3.length cc2) := (blk_cell NC.b 2).trans rfl; have zkc2_ := blk_frozen NC.b 2; have kr0_ : W32.cell? ⟨gr, 0, none⟩ = some (.int .i64 rc1) := (blk_cell NZ.b 0).trans rfl; have zkr0_ := blk_frozen NZ.b 0; have kr1_ : W32.cell? ⟨gr, 1, none⟩ = some (.slice Az1 rc2.length cz1) := (blk_cell NZ.b 1).trans rfl; have zkr1_ := blk_frozen NZ.b 1; have kr2_ : W32.cell? ⟨gr, 2, none⟩ = some (.slice Az2 rc3.length cz2) := (blk_cell NZ.b 2).trans rfl; have zkr2_ := blk_frozen NZ.b 2))
              go_ret
              exact ⟨by first | rfl | (simp; done) | (simp [*]; done), PP.hb⟩
          · have zEB1 : (rb6 == 0) = false := beq_eq_false_iff_ne.mpr e_
            have zEB2 : (rb6 != 0) = true := bne_iff_ne.mpr e_
            skip
            clear e_
            by_cases e_ : rc4 = 0
            · have zEC1 : (rc4 == 0) = true := beq_iff_eq.mpr e_
              have zEC2 : (rc4 != 0) = false := bne_eq_false_iff_eq.mpr e_
              have EC := Aside0.mk e_
              clear e_
              go_wp2_with (first | ((with_reducible refine gate_dst (N := 22) rfl ?_); refine box_event ?hg (N := 22) ?hd (cs := #[.int .i64 0, .slice none 0 0, .slice none 0 0]) (t := 25) ?hr ?_; (case hd => rfl); (case hg => rfl); (case hr => first | (go_simp; done) | (go_simp; rfl)); intro gr hgr W29 Br hb_; have wgr : W28.heap.size ≤ gr := Nat.le_of_eq hgr.symm; have HC : Below W28.heap.size W28 W29 := hb_; clear hgr hb_; have pr0_ : W29.cell? ⟨gr, 0, none⟩ = some (.int .i64 0) := (blk_cell Br 0).trans rfl; have zpr0_ := blk_frozen Br 0; have pr1_ : W29.cell? ⟨gr, 1, none⟩ = some (.slice none 0 0) := (blk_cell Br 1).trans rfl; have zpr1_ := blk_frozen Br 1; have pr2_ : W29.cell? ⟨gr, 2, none⟩ = some (.slice none 0 0) := (blk_cell Br 2).trans rfl; have zpr2_ := blk_frozen Br 2) | ((with_reducible refine gate_store (t := 25) (p := 22) rfl ?_); refine store_event (t := 25) (p := 22) (v := ?vo22_) (w1 := (((W29.setCell ⟨gr, 0, none⟩ (.int .i64 rc1)).setCell ⟨gr, 1, none⟩ (.slice Az1 rc2.length cz1)).setCell ⟨gr, 2, none⟩ (.slice Az2 rc3.length cz2))) ?hg ?ho ?hn ?hr ?_; (case ho => rfl); (case hg => rfl); (case hn => rfl); (case hr => first | (go_simp; done) | (go_simp; rfl)); intro W30 hw; have B_ := (by rw [hw]; exact bp3_ Br : W30.heap[gr]? = some (.cells #[.int .i64 rc1, .slice Az1 rc2.length cz1, .slice Az2 rc3.length cz2] 25 (0, 0))); have HC_ := (by rw [hw]; exact (below_set (below_set (below_set HC wgr) wgr) wgr) : Below W28.heap.size W28 W30); clear hw HC Br; have HC := HC_; have Br := B_; clear HC_ B_; (try clear pr0_); (try clear zpr0_); (try clear pr1_); (try clear zpr1_); (try clear pr2_); (try clear zpr2_); have NZ := (⟨Br, (by have := HC.size; omega), fun h0 => ⟨Kd.V_below (hV (by first | exact h0 | trivial)).1 HC, Kd.V_below (hV (by first | exact h0 | trivial)).2 HC⟩⟩ : kk.NB W30 g gr 0 rc1 Az1 cz1 rc2 Az2 cz2 rc3); replace PP := PP.below HC; replace NA := NA.below HC; replace NB := NB.below HC; replace NC := NC.below HC; replace NX := NX.below HC; replace NY := NY.below HC; have hgW := Nat.lt_of_lt_of_le hgW HC.size; clear HC Br hV; (try clear pr0_); (try clear zpr0_); (try clear pr1_); (try clear zpr1_); (try clear pr2_); (try clear zpr2_); have ka0_ : W30.cell? ⟨ga, 0, none⟩ = some (.int .i64 ra1) := (blk_cell NA.b 0).trans rfl; have zka0_ := blk_frozen NA.b 0; have ka1_ : W30.cell? ⟨ga, 1, none⟩ = some (.slice Aa1 ra2.length ca1) := (blk_cell NA.b 1).trans rfl; have zka1_ := blk_frozen NA.b 1; have ka2_ : W30.cell? ⟨ga, 2, none⟩ = some (.slice Aa2 ra3.length ca2) := (blk_cell NA.b 2).trans rfl; have zka2_ := blk_frozen NA.b 2; have kt0_ : W30.cell? ⟨gt, 0, none⟩ = some (.int .i64 rb1) := (blk_cell NB.b 0).trans rfl; have zkt0_ := blk_frozen NB.b 0; have kt1_ : W30.cell? ⟨gt, 1, none⟩ = some (.slice Ab1 rb2.length cb1) := (blk_cell NB.b 1).trans rfl; have zkt1_ := blk_frozen NB.b 1; have kt2_ : W30.cell? ⟨gt, 2, none⟩ = some (.slice Ab2 rb3.length cb2) := (blk_cell NB.b 2).trans rfl; have zkt2_ := blk_frozen NB.b 2; have kc0_ : W30.cell? ⟨gc, 0, none⟩ = some (.int .i64 rc1) := (blk_cell NC.b 0).trans rfl; have zkc0_ := blk_frozen NC.b 0; have kc1_ : W30.cell? ⟨gc, 1, none⟩ = some (.slice Ac1 rc2.length cc1) := (blk_cell NC.b 1).trans rfl; have zkc1_ := blk_frozen NC.b 1; have kc2_ : W30.cell? ⟨gc, 2, none⟩ = some (.slice Ac2 rc3.length cc2) := (blk_cell NC.b 2).trans rfl; have zkc2_ := blk_frozen NC.b 2; have kp0_ : W30.cell? ⟨gp, 0, none⟩ = some (.int .i64 ra1) := (blk_cell NX.b 0).trans rfl; have zkp0_ := blk_frozen NX.b 0; have kp1_ : W30.cell? ⟨gp, 1, none⟩ = some (.slice Ax1 ra2.length cx1) := (blk_cell NX.b 1).trans rfl; have zkp1_ := blk_frozen NX.b 1; have kp2_ : W30.cell? ⟨gp, 2, none⟩ = some (.slice Ax2 ra3.length cx2) := (blk_cell NX.b 2).trans rfl; have zkp2_ := blk_frozen NX.b 2; have kq0_ : W30.cell? ⟨gq, 0, none⟩ = some (.int .i64 rb1) := (blk_cell NY.b 0).trans rfl; have zkq0_ := blk_frozen NY.b 0; have kq1_ : W30.cell? ⟨gq, 1, none⟩ = some (.slice Ay1 rb2.length cy1) := (blk_cell NY.b 1).trans rfl; have zkq1_ := blk_frozen NY.b 1; have kq2_ : W30.cell? ⟨gq, 2, none⟩ = some (.slice Ay2 rb3.length cy2) := (blk_cell NY.b 2).trans rfl; have zkq2_ := blk_frozen NY.b 2; have kr0_ : W30.cell? ⟨gr, 0, none⟩ = some (.int .i64 rc1) := (blk_cell NZ.b 0).trans rfl; have zkr0_ := blk_frozen NZ.b 0; have kr1_ : W30.cell? ⟨gr, 1, none⟩ = some (.slice Az1 rc2.length cz1) := (blk_cell NZ.b 1).trans rfl; have zkr1_ := blk_frozen NZ.b 1; have kr2_ : W30.cell? ⟨gr, 2, none⟩ = some (.slice Az2 rc3.length cz2) := (blk_cell NZ.b 2).trans rfl; have zkr2_ := blk_frozen NZ.b 2) | (go_at_call 18; (with_reducible refine (chamberlainref06_Same.calls 3000 ra1 Aa1 ca1 ra2 Aa2 ca2 ra3 ra1 Ax1 cx1 ra2 Ax2 cx2 ra3 true _ (Kd.V_reads' (NA.v EA.out).1).2.2 (Kd.V_reads' (NA.v EA.out).1).2.1 (Kd.V_reads' (NA.v EA.out).2).2.2 (Kd.V_reads' (NA.v EA.out).2).2.1 (Kd.V_reads' (NX.v rfl).1).2.2 (Kd.V_reads' (NX.v rfl).1).2.1 (Kd.V_reads' (NX.v rfl).2).2.2 (Kd.V_reads' (NX.v rfl).2).2.1 ASa.out).mono ?_); rintro e W31 ⟨rfl, hb_⟩; replace PP := PP.below hb_; replace NB := NB.below hb_; replace NY := NY.below hb_; replace NC := NC.below hb_; replace NZ := NZ.below hb_; clear hb_; (try clear ka0_); (try clear zka0_); (try clear ka1_); (try clear zka1_); (try clear ka2_); (try clear zka2_); (try clear kt0_); (try clear zkt0_); (try clear kt1_); (try clear zkt1_); (try clear kt2_); (try clear zkt2_); (try clear kc0_); (try clear zkc0_); (try clear kc1_); (try clear zkc1_); (try clear kc2_); (try clear zkc2_); (try clear kp0_); (try clear zkp0_); (try clear kp1_); (try clear zkp1_); (try clear kp2_); (try clear zkp2_); (try clear kq0_); (try clear zkq0_); (try clear kq1_); (try clear zkq1_); (try clear kq2_); (try clear zkq2_); (try clear kr0_); (try clear zkr0_); (try clear kr1_); (try clear zkr1_); (try clear kr2_); (try clear zkr2_); have kt0_ : W31.cell? ⟨gt, 0, none⟩ = some (.int .i64 rb1) := (blk_cell NB.b 0).trans rfl; have zkt0_ := blk_frozen NB.b 0; have kt1_ : W31.cell? ⟨gt, 1, none⟩ = some (.slice Ab1 rb2.length cb1) := (blk_cell NB.b 1).trans rfl; have zkt1_ := blk_frozen NB.b 1; have kt2_ : W31.cell? ⟨gt, 2, none⟩ = some (.slice Ab2 rb3.length cb2) := (blk_cell NB.b 2).trans rfl; have zkt2_ := blk_frozen NB.b 2; have kq0_ : W31.cell? ⟨gq, 0, none⟩ = some (.int .i64 rb1) := (blk_cell NY.b 0).trans rfl; have zkq0_ := blk_frozen NY.b 0; have kq1_ : W31.cell? ⟨gq, 1, none⟩ = some (.slice Ay1 rb2.length cy1) := (blk_cell NY.b 1).trans rfl; have zkq1_ := blk_frozen NY.b 1; have kq2_ : W31.cell? ⟨gq, 2, none⟩ = some (.slice Ay2 rb3.length cy2) := (blk_cell NY.b 2).trans rfl; have zkq2_ := blk_frozen NY.b 2; have kc0_ : W31.cell? ⟨gc, 0, none⟩ = some (.int .i64 rc1) := (blk_cell NC.b 0).trans rfl; have zkc0_ := blk_frozen NC.b 0; have kc1_ : W31.cell? ⟨gc, 1, none⟩ = some (.slice Ac1 rc2.length cc1) := (blk_cell NC.b 1).trans rfl; have zkc1_ := blk_frozen NC.b 1; have kc2_ : W31.cell? ⟨gc, 2, none⟩ = some (.slice Ac2 rc3.length cc2) := (blk_cell NC.b 2).trans rfl; have zkc2_ := blk_frozen NC.b 2; have kr0_ : W31.cell? ⟨gr, 0, none⟩ = some (.int .i64 rc1) := (blk_cell NZ.b 0).trans rfl; have zkr0_ := blk_frozen NZ.b 0; have kr1_ : W31.cell? ⟨gr, 1, none⟩ = some (.slice Az1 rc2.length cz1) := (blk_cell NZ.b 1).trans rfl; have zkr1_ := blk_frozen NZ.b 1; have kr2_ : W31.cell? ⟨gr, 2, none⟩ = some (.slice Az2 rc3.length cz2) := (blk_cell NZ.b 2).trans rfl; have zkr2_ := blk_frozen NZ.b 2) | (go_at_call 18; (with_reducible refine (chamberlainref06_Same.calls 3000 rc1 Ac1 cc1 rc2 Ac2 cc2 rc3 rc1 Az1 cz1 rc2 Az2 cz2 rc3 true _ (Kd.V_reads' (NC.v EC.out).1).2.2 (Kd.V_reads' (NC.v EC.out).1).2.1 (Kd.V_reads' (NC.v EC.out).2).2.2 (Kd.V_reads' (NC.v EC.out).2).2.1 (Kd.V_reads' (NZ.v rfl).1).2.2 (Kd.V_reads' (NZ.v rfl).1).2.1 (Kd.V_reads' (NZ.v rfl).2).2.2 (Kd.V_reads' (NZ.v rfl).2).2.1 ASc.out).mono ?_); rintro e W33 ⟨rfl, hb_⟩; replace PP := PP.below hb_; clear hb_; (try clear ka0_); (try clear zka0_); (try clear ka1_); (try clear zka1_); (try clear ka2_); (try clear zka2_); (try clear kt0_); (try clear zkt0_); (try clear kt1_); (try clear zkt1_); (try clear kt2_); (try clear zkt2_); (try clear kc0_); (try clear zkc0_); (try clear kc1_); (try clear zkc1_); (try clear kc2_); (try clear zkc2_); (try clear kp0_); (try clear zkp0_); (try clear kp1_); (try clear zkp1_); (try clear kp2_); (try clear zkp2_); (try clear kq0_); (try clear zkq0_); (try clear kq1_); (try clear zkq1_); (try clear kq2_); (try clear zkq2_); (try clear kr0_); (try clear zkr0_); (try clear kr1_); (try clear zkr1_); (try clear kr2_); (try clear zkr2_)))
              go_ret
              exact ⟨by first | rfl | (simp; done) | (simp [*]; done), PP.hb⟩
            · have zEC1 : (rc4 == 0) = false := beq_eq_false_iff_ne.mpr e_
              have zEC2 : (rc4 != 0) = true := bne_iff_ne.mpr e_
              skip
              clear e_
              go_wp2_with (first | ((with_reducible refine gate_dst (N := 22) rfl ?_); refine box_event ?hg (N := 22) ?hd (cs := #[.int .i64 0, .slice none 0 0, .slice none 0 0]) (t := 25) ?hr ?_; (case hd => rfl); (case hg => rfl); (case hr => first | (go_simp; done) | (go_simp; rfl)); intro gr hgr W29 Br hb_; have wgr : W28.heap.size ≤ gr := Nat.le_of_eq hgr.symm; have HC : Below W28.heap.size W28 W29 := hb_; clear hgr hb_; have pr0_ : W29.cell? ⟨gr, 0, none⟩ = some (.int .i64 0) := (blk_cell Br 0).trans rfl; have zpr0_ := blk_frozen Br 0; have pr1_ : W29.cell? ⟨gr, 1, none⟩ = some (.slice none 0 0) := (blk_cell Br 1).trans rfl; have zpr1_ := blk_frozen Br 1; have pr2_ : W29.cell? ⟨gr, 2, none⟩ = some (.slice none 0 0) := (blk_cell Br 2).trans rfl; have zpr2_ := blk_frozen Br 2) | ((with_reducible refine gate_store (t := 25) (p := 22) rfl ?_); refine store_event (t := 25) (p := 22) (v := ?vo22_) (w1 := (((W29.setCell ⟨gr, 0, none⟩ (.int .i64 rc1)).setCell ⟨gr, 1, none⟩ (.slice Az1 rc2.length cz1)).setCell ⟨gr, 2, none⟩ (.slice Az2 rc3.length cz2))) ?hg ?ho ?hn ?hr ?_; (case ho => rfl); (case hg => rfl); (case hn => rfl); (case hr => first | (go_simp; done) | (go_simp; rfl)); intro W30 hw; have B_ := (by rw [hw]; exact bp3_ Br : W30.heap[gr]? = some (.cells #[.int .i64 rc1, .slice Az1 rc2.length cz1, .slice Az2 rc3.length cz2] 25 (0, 0))); have HC_ := (by rw [hw]; exact (below_set (below_set (below_set HC wgr) wgr) wgr) : Below W28.heap.size W28 W30); clear hw HC Br; have HC := HC_; have Br := B_; clear HC_ B_; (try clear pr0_); (try clear zpr0_); (try clear pr1_); (try clear zpr1_); (try clear pr2_); (try clear zpr2_); have NZ := (⟨Br, (by have := HC.size; omega), fun h0 => ⟨Kd.V_below (hV (by first | exact h0 | trivial)).1 HC, Kd.V_below (hV (by first | exact h0 | trivial)).2 HC⟩⟩ : kk.NB W30 g gr 0 rc1 Az1 cz1 rc2 Az2 cz2 rc3); replace PP := PP.below HC; replace NA := NA.below HC; replace NB := NB.below HC; replace NC := NC.below HC; replace NX := NX.below HC; replace NY := NY.below HC; have hgW := Nat.lt_of_lt_of_le hgW HC.size; clear HC Br hV; (try clear pr0_); (try clear zpr0_); (try clear pr1_); (try clear zpr1_); (try clear pr2_); (try clear zpr2_); have ka0_ : W30.cell? ⟨ga, 0, none⟩ = some (.int .i64 ra1) := (blk_cell NA.b 0).trans rfl; have zka0_ := blk_frozen NA.b 0; have ka1_ : W30.cell? ⟨ga, 1, none⟩ = some (.slice Aa1 ra2.length ca1) := (blk_cell NA.b 1).trans rfl; have zka1_ := blk_frozen NA.b 1; have ka2_ : W30.cell? ⟨ga, 2, none⟩ = some (.slice Aa2 ra3.length ca2) := (blk_cell NA.b 2).trans rfl; have zka2_ := blk_frozen NA.b 2; have kt0_ : W30.cell? ⟨gt, 0, none⟩ = some (.int .i64 rb1) := (blk_cell NB.b 0).trans rfl; have zkt0_ := blk_frozen NB.b 0; have kt1_ : W30.cell? ⟨gt, 1, none⟩ = some (.slice Ab1 rb2.length cb1) := (blk_cell NB.b 1).trans rfl; have zkt1_ := blk_frozen NB.b 1; have kt2_ : W30.cell? ⟨gt, 2, none⟩ = some (.slice Ab2 rb3.length cb2) := (blk_cell NB.b 2).trans rfl; have zkt2_ := blk_frozen NB.b 2; have kc0_ : W30.cell? ⟨gc, 0, none⟩ = some (.int .i64 rc1) := (blk_cell NC.b 0).trans rfl; have zkc0_ := blk_frozen NC.b 0; have kc1_ : W30.cell? ⟨gc, 1, none⟩ = some (.slice Ac1 rc2.length cc1) := (blk_cell NC.b 1).trans rfl; have zkc1_ := blk_frozen NC.b 1; have kc2_ : W30.cell? ⟨gc, 2, none⟩ = some (.slice Ac2 rc3.length cc2) := (blk_cell NC.b 2).trans rfl; have zkc2_ := blk_frozen NC.b 2; have kp0_ : W30.cell? ⟨gp, 0, none⟩ = some (.int .i64 ra1) := (blk_cell NX.b 0).trans rfl; have zkp0_ := blk_frozen NX.b 0; have kp1_ : W30.cell? ⟨gp, 1, none⟩ = some (.slice Ax1 ra2.length cx1) := (blk_cell NX.b 1).trans rfl; have zkp1_ := blk_frozen NX.b 1; have kp2_ : W30.cell? ⟨gp, 2, none⟩ = some (.slice Ax2 ra3.length cx2) := (blk_cell NX.b 2).trans rfl; have zkp2_ := blk_frozen NX.b 2; have kq0_ : W30.cell? ⟨gq, 0, none⟩ = some (.int .i64 rb1) := (blk_cell NY.b 0).trans rfl; have zkq0_ := blk_frozen NY.b 0; have kq1_ : W30.cell? ⟨gq, 1, none⟩ = some (.slice Ay1 rb2.length cy1) := (blk_cell NY.b 1).trans rfl; have zkq1_ := blk_frozen NY.b 1; have kq2_ : W30.cell? ⟨gq, 2, none⟩ = some (.slice Ay2 rb3.length cy2) := (blk_cell NY.b 2).trans rfl; have zkq2_ := blk_frozen NY.b 2; have kr0_ : W30.cell? ⟨gr, 0, none⟩ = some (.int .i64 rc1) := (blk_cell NZ.b 0).trans rfl; have zkr0_ := blk_frozen NZ.b 0; have kr1_ : W30.cell? ⟨gr, 1, none⟩ = some (.slice Az1 rc2.length cz1) := (blk_cell NZ.b 1).trans rfl; have zkr1_ := blk_frozen NZ.b 1; have kr2_ : W30.cell? ⟨gr, 2, none⟩ = some (.slice Az2 rc3.length cz2) := (blk_cell NZ.b 2).trans rfl; have zkr2_ := blk_frozen NZ.b 2) | (go_at_call 18; (with_reducible refine (chamberlainref06_Same.calls 3000 ra1 Aa1 ca1 ra2 Aa2 ca2 ra3 ra1 Ax1 cx1 ra2 Ax2 cx2 ra3 true _ (Kd.V_reads' (NA.v EA.out).1).2.2 (Kd.V_reads' (NA.v EA.out).1).2.1 (Kd.V_reads' (NA.v EA.out).2).2.2 (Kd.V_reads' (NA.v EA.out).2).2.1 (Kd.V_reads' (NX.v rfl).1).2.2 (Kd.V_reads' (NX.v rfl).1).2.1 (Kd.V_reads' (NX.v rfl).2).2.2 (Kd.V_reads' (NX.v rfl).2).2.1 ASa.out).mono ?_); rintro e W31 ⟨rfl, hb_⟩; replace PP := PP.below hb_; replace NB := NB.below hb_; replace NY := NY.below hb_; replace NC := NC.below hb_; replace NZ := NZ.below hb_; clear hb_; (try clear ka0_); (try clear zka0_); (try clear ka1_); (try clear zka1_); (try clear ka2_); (try clear zka2_); (try clear kt0_); (try clear zkt0_); (try clear kt1_); (try clear zkt1_); (try clear kt2_); (try clear zkt2_); (try clear kc0_); (try clear zkc0_); (try clear kc1_); (try clear zkc1_); (try clear kc2_); (try clear zkc2_); (try clear kp0_); (try clear zkp0_); (try clear kp1_); (try clear zkp1_); (try clear kp2_); (try clear zkp2_); (try clear kq0_); (try clear zkq0_); (try clear kq1_); (try clear zkq1_); (try clear kq2_); (try clear zkq2_); (try clear kr0_); (try clear zkr0_); (try clear kr1_); (try clear zkr1_); (try clear kr2_); (try clear zkr2_); have kt0_ : W31.cell? ⟨gt, 0, none⟩ = some (.int .i64 rb1) := (blk_cell NB.b 0).trans rfl; have zkt0_ := blk_frozen NB.b 0; have kt1_ : W31.cell? ⟨gt, 1, none⟩ = some (.slice Ab1 rb2.length cb1) := (blk_cell NB.b 1).trans rfl; have zkt1_ := blk_frozen NB.b 1; have kt2_ : W31.cell? ⟨gt, 2, none⟩ = some (.slice Ab2 rb3.length cb2) := (blk_cell NB.b 2).trans rfl; have zkt2_ := blk_frozen NB.b 2; have kq0_ : W31.cell? ⟨gq, 0, none⟩ = some (.int .i64 rb1) := (blk_cell NY.b 0).trans rfl; have zkq0_ := blk_frozen NY.b 0; have kq1_ : W31.cell? ⟨gq, 1, none⟩ = some (.slice Ay1 rb2.length cy1) := (blk_cell NY.b 1).trans rfl; have zkq1_ := blk_frozen NY.b 1; have kq2_ : W31.cell? ⟨gq, 2, none⟩ = some (.slice Ay2 rb3.length cy2) := (blk_cell NY.b 2).trans rfl; have zkq2_ := blk_frozen NY.b 2; have kc0_ : W31.cell? ⟨gc, 0, none⟩ = some (.int .i64 rc1) := (blk_cell NC.b 0).trans rfl; have zkc0_ := blk_frozen NC.b 0; have kc1_ : W31.cell? ⟨gc, 1, none⟩ = some (.slice Ac1 rc2.length cc1) := (blk_cell NC.b 1).trans rfl; have zkc1_ := blk_frozen NC.b 1; have kc2_ : W31.cell? ⟨gc, 2, none⟩ = some (.slice Ac2 rc3.length cc2) := (blk_cell NC.b 2).trans rfl; have zkc2_ := blk_frozen NC.b 2; have kr0_ : W31.cell? ⟨gr, 0, none⟩ = some (.int .i64 rc1) := (blk_cell NZ.b 0).trans rfl; have zkr0_ := blk_frozen NZ.b 0; have kr1_ : W31.cell? ⟨gr, 1, none⟩ = some (.slice Az1 rc2.length cz1) := (blk_cell NZ.b 1).trans rfl; have zkr1_ := blk_frozen NZ.b 1; have kr2_ : W31.cell? ⟨gr, 2, none⟩ = some (.slice Az2 rc3.length cz2) := (blk_cell NZ.b 2).trans rfl; have zkr2_ := blk_frozen NZ.b 2))
              go_ret
              exact ⟨by first | rfl | (simp; done) | (simp [*]; done), PP.hb⟩
        · have zEA1 : (ra4 == 0) = false := beq_eq_false_iff_ne.mpr e_
          have zEA2 : (ra4 != 0) = true := bne_iff_ne.mpr e_
          skip
          clear e_
          by_cases e_ : rb6 = 0
          · have zEB1 : (rb6 == 0) = true := beq_iff_eq.mpr e_
            have zEB2 : (rb6 != 0) = false := bne_eq_false_iff_eq.mpr e_
            have EB := Aside0.mk e_
            clear e_
            by_cases e_ : rc4 = 0
            · have zEC1 : (rc4 == 0) = true := beq_iff_eq.mpr e_
              have zEC2 : (rc4 != 0) = false := bne_eq_false_iff_eq.mpr e_
              have EC := Aside0.mk e_
              clear e_
              go_wp2_with (first | ((with_reducible refine gate_dst (N := 22) rfl ?_); refine box_event ?hg (N := 22) ?hd (cs := #[.int .i64 0, .slice none 0 0, .slice none 0 0]) (t := 25) ?hr ?_; (case hd => rfl); (case hg => rfl); (case hr => first | (go_simp; done) | (go_simp; rfl)); intro gr hgr W29 Br hb_; have wgr : W28.heap.size ≤ gr := Nat.le_of_eq hgr.symm; have HC : Below W28.heap.size W28 W29 := hb_; clear hgr hb_; have pr0_ : W29.cell? ⟨gr, 0, none⟩ = some (.int .i64 0) := (blk_cell Br 0).trans rfl; have zpr0_ := blk_frozen Br 0; have pr1_ : W29.cell? ⟨gr, 1, none⟩ = some (.slice none 0 0) := (blk_cell Br 1).trans rfl; have zpr1_ := blk_frozen Br 1; have pr2_ : W29.cell? ⟨gr, 2, none⟩ = some (.slice none 0 0) := (blk_cell Br 2).trans rfl; have zpr2_ := blk_frozen Br 2) | ((with_reducible refine gate_store (t := 25) (p := 22) rfl ?_); refine store_event (t := 25) (p := 22) (v := ?vo22_) (w1 := (((W29.setCell ⟨gr, 0, none⟩ (.int .i64 rc1)).setCell ⟨gr, 1, none⟩ (.slice Az1 rc2.length cz1)).setCell ⟨gr, 2, none⟩ (.slice Az2 rc3.length cz2))) ?hg ?ho ?hn ?hr ?_; (case ho => rfl); (case hg => rfl); (case hn => rfl); (case hr => first | (go_simp; done) | (go_simp; rfl)); intro W30 hw; have B_ := (by rw [hw]; exact bp3_ Br : W30.heap[gr]? = some (.cells #[.int .i64 rc1, .slice Az1 rc2.length cz1, .slice Az2 rc3.length cz2] 25 (0, 0))); have HC_ := (by rw [hw]; exact (below_set (below_set (below_set HC wgr) wgr) wgr) : Below W28.heap.size W28 W30); clear hw HC Br; have HC := HC_; have Br := B_; clear HC_ B_; (try clear pr0_); (try clear zpr0_); (try clear pr1_); (try clear zpr1_); (try clear pr2_); (try clear zpr2_); have NZ := (⟨Br, (by have := HC.size; omega), fun h0 => ⟨Kd.V_below (hV (by first | exact h0 | trivial)).1 HC, Kd.V_below (hV (by first | exact h0 | trivial)).2 HC⟩⟩ : kk.NB W30 g gr 0 rc1 Az1 cz1 rc2 Az2 cz2 rc3); replace PP := PP.below HC; replace NA := NA.below HC; replace NB := NB.below HC; replace NC := NC.below HC; replace NX := NX.below HC; replace NY := NY.below HC; have hgW := Nat.lt_of_lt_of_le hgW HC.size; clear HC Br hV; (try clear pr0_); (try clear zpr0_); (try clear pr1_); (try clear zpr1_); (try clear pr2_); (try clear zpr2_); have ka0_ : W30.cell? ⟨ga, 0, none⟩ = some (.int .i64 ra1) := (blk_cell NA.b 0).trans rfl; have zka0_ := blk_frozen NA.b 0; have ka1_ : W30.cell? ⟨ga, 1, none⟩ = some (.slice Aa1 ra2.length ca1) := (blk_cell NA.b 1).trans rfl; have zka1_ := blk_frozen NA.b 1; have ka2_ : W30.cell? ⟨ga, 2, none⟩ = some (.slice Aa2 ra3.length ca2) := (blk_cell NA.b 2).trans rfl; have zka2_ := blk_frozen NA.b 2; have kt0_ : W30.cell? ⟨gt, 0, none⟩ = some (.int .i64 rb1) := (blk_cell NB.b 0).trans rfl; have zkt0_ := blk_frozen NB.b 0; have kt1_ : W30.cell? ⟨gt, 1, none⟩ = some (.slice Ab1 rb2.length cb1) := (blk_cell NB.b 1).trans rfl; have zkt1_ := blk_frozen NB.b 1; have kt2_ : W30.cell? ⟨gt, 2, none⟩ = some (.slice Ab2 rb3.length cb2) := (blk_cell NB.b 2).trans rfl; have zkt2_ := blk_frozen NB.b 2; have kc0_ : W30.cell? ⟨gc, 0, none⟩ = some (.int .i64 rc1) := (blk_cell NC.b 0).trans rfl; have zkc0_ := blk_frozen NC.b 0; have kc1_ : W30.cell? ⟨gc, 1, none⟩ = some (.slice Ac1 rc2.length cc1) := (blk_cell NC.b 1).trans rfl; have zkc1_ := blk_frozen NC.b 1; have kc2_ : W30.cell? ⟨gc, 2, none⟩ = some (.slice Ac2 rc3.length cc2) := (blk_cell NC.b 2).trans rfl; have zkc2_ := blk_frozen NC.b 2; have kp0_ : W30.cell? ⟨gp, 0, none⟩ = some (.int .i64 ra1) := (blk_cell NX.b 0).trans rfl; have zkp0_ := blk_frozen NX.b 0; have kp1_ : W30.cell? ⟨gp, 1, none⟩ = some (.slice Ax1 ra2.length cx1) := (blk_cell NX.b 1).trans rfl; have zkp1_ := blk_frozen NX.b 1; have kp2_ : W30.cell? ⟨gp, 2, none⟩ = some (.slice Ax2 ra3.length cx2) := (blk_cell NX.b 2).trans rfl; have zkp2_ := blk_frozen NX.b 2; have kq0_ : W30.cell? ⟨gq, 0, none⟩ = some (.int .i64 rb1) := (blk_cell NY.b 0).trans rfl; have zkq0_ := blk_frozen NY.b 0; have kq1_ : W30.cell? ⟨gq, 1, none⟩ = some (.slice Ay1 rb2.length cy1) := (blk_cell NY.b 1).trans rfl; have zkq1_ := blk_frozen NY.b 1; have kq2_ : W30.cell? ⟨gq, 2, none⟩ = some (.slice Ay2 rb3.length cy2) := (blk_cell NY.b 2).trans rfl; have zkq2_ := blk_frozen NY.b 2; have kr0_ : W30.cell? ⟨gr, 0, none⟩ = some (.int .i64 rc1) := (blk_cell NZ.b 0).trans rfl; have zkr0_ := blk_frozen NZ.b 0; have kr1_ : W30.cell? ⟨gr, 1, none⟩ = some (.slice Az1 rc2.length cz1) := (blk_cell NZ.b 1).trans rfl; have zkr1_ := blk_frozen NZ.b 1; have kr2_ : W30.cell? ⟨gr, 2, none⟩ = some (.slice Az2 rc3.length cz2) := (blk_cell NZ.b 2).trans rfl; have zkr2_ := blk_frozen NZ.b 2) | (go_at_call 18; (with_reducible refine (chamberlainref06_Same.calls 3000 rb1 Ab1 cb1 rb2 Ab2 cb2 rb3 rb1 Ay1 cy1 rb2 Ay2 cy2 rb3 true _ (Kd.V_reads' (NB.v EB.out).1).2.2 (Kd.V_reads' (NB.v EB.out).1).2.1 (Kd.V_reads' (NB.v EB.out).2).2.2 (Kd.V_reads' (NB.v EB.out).2).2.1 (Kd.V_reads' (NY.v rfl).1).2.2 (Kd.V_reads' (NY.v rfl).1).2.1 (Kd.V_reads' (NY.v rfl).2).2.2 (Kd.V_reads' (NY.v rfl).2).2.1 ASb.out).mono ?_); rintro e W32 ⟨rfl, hb_⟩; replace PP := PP.below hb_; replace NC := NC.below hb_; replace NZ := NZ.below hb_; clear hb_; (try clear ka0_); (try clear zka0_); (try clear ka1_); (try clear zka1_); (try clear ka2_); (try clear zka2_); (try clear kt0_); (try clear zkt0_); (try clear kt1_); (try clear zkt1_); (try clear kt2_); (try clear zkt2_); (try clear kc0_); (try clear zkc0_); (try clear kc1_); (try clear zkc1_); (try clear kc2_); (try clear zkc2_); (try clear kp0_); (try clear zkp0_); (try clear kp1_); (try clear zkp1_); (try clear kp2_); (try clear zkp2_); (try clear kq0_); (try clear zkq0_); (try clear kq1_); (try clear zkq1_); (try clear kq2_); (try clear zkq2_); (try clear kr0_); (try clear zkr0_); (try clear kr1_); (try clear zkr1_); (try clear kr2_); (try clear zkr2_); have kc0_ : W32.cell? ⟨gc, 0, none⟩ = some (.int .i64 rc1) := (blk_cell NC.b 0).trans rfl; have zkc0_ := blk_frozen NC.b 0; have kc1_ : W32.cell? ⟨gc, 1, none⟩ = some (.slice Ac1 rc2.length cc1) := (blk_cell NC.b 1).trans rfl; have zkc1_ := blk_frozen NC.b 1; have kc2_ : W32.cell? ⟨gc, 2, none⟩ = some (.slice Ac2 rc3.length cc2) := (blk_cell NC.b 2).trans rfl; have zkc2_ := blk_frozen NC.b 2; have kr0_ : W32.cell? ⟨gr, 0, none⟩ = some (.int .i64 rc1) := (blk_cell NZ.b 0).trans rfl; have zkr0_ := blk_frozen NZ.b 0; have kr1_ : W32.cell? ⟨gr, 1, none⟩ = some (.slice Az1 rc2.length cz1) := (blk_cell NZ.b 1).trans rfl; have zkr1_ := blk_frozen NZ.b 1; have kr2_ : W32.cell? ⟨gr, 2, none⟩ = some (.slice Az2 rc3.length cz2) := (blk_cell NZ.b 2).trans rfl; have zkr2_ := blk_frozen NZ.b 2) | (go_at_call 18; (with_reducible refine (chamberlainref06_Same.calls 3000 rc1 Ac1 cc1 rc2 Ac2 cc2 rc3 rc1 Az1 cz1 rc2 Az2 cz2 rc3 true _ (Kd.V_reads' (NC.v EC.out).1).2.2 (Kd.V_reads' (NC.v EC.out).1).2.1 (Kd.V_reads' (NC.v EC.out).2).2.2 (Kd.V_reads' (NC.v EC.out).2).2.1 (Kd.V_reads' (NZ.v rfl).1).2.2 (Kd.V_reads' (NZ.v rfl).1).2.1 (Kd.V_reads' (NZ.v rfl).2).2.2 (Kd.V_reads' (NZ.v rfl).2).2.1 ASc.out).mono ?_); rintro e W33 ⟨rfl, hb_⟩; replace PP := PP.below hb_; clear hb_; (try clear ka0_); (try clear zka0_); (try clear ka1_); (try clear zka1_); (try clear ka2_); (try clear zka2_); (try clear kt0_); (try clear zkt0_); (try clear kt1_); (try clear zkt1_); (try clear kt2_); (try clear zkt2_); (try clear kc0_); (try clear zkc0_); (try clear kc1_); (try clear zkc1_); (try clear kc2_); (try clear zkc2_); (try clear kp0_); (try clear zkp0_); (try clear kp1_); (try clear zkp1_); (try clear kp2_); (try clear zkp2_); (try clear kq0_); (try clear zkq0_); (try clear kq1_); (try clear zkq1_); (try clear kq2_); (try clear zkq2_); (try clear kr0_); (try clear zkr0_); (try clear kr1_); (try clear zkr1_); (try clear kr2_); (try clear zkr2_)))
              go_ret
              exact ⟨by first | rfl | (simp; done) | (simp [*]; done), PP.hb⟩
            · have zEC1 : (rc4 == 0) = false := beq_eq_false_iff_ne.mpr e_
              have zEC2 : (rc4 != 0) = true := bne_iff_ne.mpr e_
              skip
              clear e_
              go_wp2_with (first | ((with_reducible refine gate_dst (N := 22) rfl ?_); refine box_event ?hg (N := 22) ?hd (cs := #[.int .i64 0, .slice none 0 0, .slice none 0 0]) (t := 25) ?hr ?_; (case hd => rfl); (case hg => rfl); (case hr => first | (go_simp; done) | (go_simp; rfl)); intro gr hgr W29 Br hb_; have wgr : W28.heap.size ≤ gr := Nat.le_of_eq hgr.symm; have HC : Below W28.heap.size W28 W29 := hb_; clear hgr hb_; have pr0_ : W29.cell? ⟨gr, 0, none⟩ = some (.int .i64 0) := (blk_cell Br 0).trans rfl; have zpr0_ := blk_frozen Br 0; have pr1_ : W29.cell? ⟨gr, 1, none⟩ = some (.slice none 0 0) := (blk_cell Br 1).trans rfl; have zpr1_ := blk_frozen Br 1; have pr2_ : W29.cell? ⟨gr, 2, none⟩ = some (.slice none 0 0) := (blk_cell Br 2).trans rfl; have zpr2_ := blk_frozen Br 2) | ((with_reducible refine gate_store (t := 25) (p := 22) rfl ?_); refine store_event (t := 25) (p := 22) (v := ?vo22_) (w1 := (((W29.setCell ⟨gr, 0, none⟩ (.int .i64 rc1)).setCell ⟨gr, 1, none⟩ (.slice Az1 rc2.length cz1)).setCell ⟨gr, 2, none⟩ (.slice Az2 rc3.length cz2))) ?hg ?ho ?hn ?hr ?_; (case ho => rfl); (case hg => rfl); (case hn => rfl); (case hr => first | (go_simp; done) | (go_simp; rfl)); intro W30 hw; have B_ := (by rw [hw]; exact bp3_ Br : W30.heap[gr]? = some (.cells #[.int .i64 rc1, .slice Az1 rc2.length cz1, .slice Az2 rc3.length cz2] 25 (0, 0))); have HC_ := (by rw [hw]; exact (below_set (below_set (below_set HC wgr) wgr) wgr) : Below W28.heap.size W28 W30); clear hw HC Br; have HC := HC_; have Br := B_; clear HC_ B_; (try clear pr0_); (try clear zpr0_); (try clear pr1_); (try clear zpr1_); (try clear pr2_); (try clear zpr2_); have NZ := (⟨Br, (by have := HC.size; omega), fun h0 => ⟨Kd.V_below (hV (by first | exact h0 | trivial)).1 HC, Kd.V_below (hV (by first | exact h0 | trivial)).2 HC⟩⟩ : kk.NB W30 g gr 0 rc1 Az1 cz1 rc2 Az2 cz2 rc3); replace PP := PP.below HC; replace NA := NA.below HC; replace NB := NB.below HC; replace NC := NC.below HC; replace NX := NX.below HC; replace NY := NY.below HC; have hgW := Nat.lt_of_lt_of_le hgW HC.size; clear HC Br hV; (try clear pr0_); (try clear zpr0_); (try clear pr1_); (try clear zpr1_); (try clear pr2_); (try clear zpr2_); have ka0_ : W30.cell? ⟨ga, 0, none⟩ = some (.int .i64 ra1) := (blk_cell NA.b 0).trans rfl; have zka0_ := blk_frozen NA.b 0; have ka1_ : W30.cell? ⟨ga, 1, none⟩ = some (.slice Aa1 ra2.length ca1) := (blk_cell NA.b 1).trans rfl; have zka1_ := blk_frozen NA.b 1; have ka2_ : W30.cell? ⟨ga, 2, none⟩ = some (.slice Aa2 ra3.length ca2) := (blk_cell NA.b 2).trans rfl; have zka2_ := blk_frozen NA.b 2; have kt0_ : W30.cell? ⟨gt, 0, none⟩ = some (.int .i64 rb1) := (blk_cell NB.b 0).trans rfl; have zkt0_ := blk_frozen NB.b 0; have kt1_ : W30.cell? ⟨gt, 1, none⟩ = some (.slice Ab1 rb2.length cb1) := (blk_cell NB.b 1).trans rfl; have zkt1_ := blk_frozen NB.b 1; have kt2_ : W30.cell? ⟨gt, 2, none⟩ = some (.slice Ab2 rb3.length cb2) := (blk_cell NB.b 2).trans rfl; have zkt2_ := blk_frozen NB.b 2; have kc0_ : W30.cell? ⟨gc, 0, none⟩ = some (.int .i64 rc1) := (blk_cell NC.b 0).trans rfl; have zkc0_ := blk_frozen NC.b 0; have kc1_ : W30.cell? ⟨gc, 1, none⟩ = some (.slice Ac1 rc2.length cc1) := (blk_cell NC.b 1).trans rfl; have zkc1_ := blk_frozen NC.b 1; have kc2_ : W30.cell? ⟨gc, 2, none⟩ = some (.slice Ac2 rc3.length cc2) := (blk_cell NC.b 2).trans rfl; have zkc2_ := blk_frozen NC.b 2; have kp0_ : W30.cell? ⟨gp, 0, none⟩ = some (.int .i64 ra1) := (blk_cell NX.b 0).trans rfl; have zkp0_ := blk_frozen NX.b 0; have kp1_ : W30.cell? ⟨gp, 1, none⟩ = some (.slice Ax1 ra2.length cx1) := (blk_cell NX.b 1).trans rfl; have zkp1_ := blk_frozen NX.b 1; have kp2_ : W30.cell? ⟨gp, 2, none⟩ = some (.slice Ax2 ra3.length cx2) := (blk_cell NX.b 2).trans rfl; have zkp2_ := blk_frozen NX.b 2; have kq0_ : W30.cell? ⟨gq, 0, none⟩ = some (.int .i64 rb1) := (blk_cell NY.b 0).trans rfl; have zkq0_ := blk_frozen NY.b 0; have kq1_ : W30.cell? ⟨gq, 1, none⟩ = some (.slice Ay1 rb2.length cy1) := (blk_cell NY.b 1).trans rfl; have zkq1_ := blk_frozen NY.b 1; have kq2_ : W30.cell? ⟨gq, 2, none⟩ = some (.slice Ay2 rb3.length cy2) := (blk_cell NY.b 2).trans rfl; have zkq2_ := blk_frozen NY.b 2; have kr0_ : W30.cell? ⟨gr, 0, none⟩ = some (.int .i64 rc1) := (blk_cell NZ.b 0).trans rfl; have zkr0_ := blk_frozen NZ.b 0; have kr1_ : W30.cell? ⟨gr, 1, none⟩ = some (.slice Az1 rc2.length cz1) := (blk_cell NZ.b 1).trans rfl; have zkr1_ := blk_frozen NZ.b 1; have kr2_ : W30.cell? ⟨gr, 2, none⟩ = some (.slice Az2 rc3.length cz2) := (blk_cell NZ.b 2).trans rfl; have zkr2_ := blk_frozen NZ.b 2) | (go_at_call 18; (with_reducible refine (chamberlainref06_Same.calls 3000 rb1 Ab1 cb1 rb2 Ab2 cb2 rb3 rb1 Ay1 cy1 rb2 Ay2 cy2 rb3 true _ (Kd.V_reads' (NB.v EB.out).1).2.2 (Kd.V_reads' (NB.v EB.out).1).2.1 (Kd.V_reads' (NB.v EB.out).2).2.2 (Kd.V_reads' (NB.v EB.out).2).2.1 (Kd.V_reads' (NY.v rfl).1).2.2 (Kd.V_reads' (NY.v rfl).1).2.1 (Kd.V_reads' (NY.v rfl).2).2.2 (Kd.V_reads' (NY.v rfl).2).2.1 ASb.out).mono ?_); rintro e W32 ⟨rfl, hb_⟩; replace PP := PP.below hb_; replace NC := NC.below hb_; replace NZ := NZ.below hb_; clear hb_; (try clear ka0_); (try clear zka0_); (try clear ka1_); (try clear zka1_); (try clear ka2_); (try clear zka2_); (try clear kt0_); (try clear zkt0_); (try clear kt1_); (try clear zkt1_); (try clear kt2_); (try clear zkt2_); (try clear kc0_); (try clear zkc0_); (try clear kc1_); (try clear zkc1_); (try clear kc2_); (try clear zkc2_); (try clear kp0_); (try clear zkp0_); (try clear kp1_); (try clear zkp1_); (try clear kp2_); (try clear zkp2_); (try clear kq0_); (try clear zkq0_); (try clear kq1_); (try clear zkq1_); (try clear kq2_); (try clear zkq2_); (try clear kr0_); (try clear zkr0_); (try clear kr1_); (try clear zkr1_); (try clear kr2_); (try clear zkr2_); have kc0_ : W32.cell? ⟨gc, 0, none⟩ = some (.int .i64 rc1) := (blk_cell NC.b 0).trans rfl; have zkc0_ := blk_frozen NC.b 0; have kc1_ : W32.cell? ⟨gc, 1, none⟩ = some (.slice Ac1 rc2.length cc1) := (blk_cell NC.b 1).trans rfl; have zkc1_ := blk_frozen NC.b 1; have kc2_ : W32.cell? ⟨gc, 2, none⟩ = some (.slice Ac2 rc3.length cc2) := (blk_cell NC.b 2).trans rfl; have zkc2_ := blk_frozen NC.b 2; have kr0_ : W32.cell? ⟨gr, 0, none⟩ = some (.int .i64 rc1) := (blk_cell NZ.b 0).trans rfl; have zkr0_ := blk_frozen NZ.b 0; have kr1_ : W32.cell? ⟨gr, 1, none⟩ = some (.slice Az1 rc2.length cz1) := (blk_cell NZ.b 1).trans rfl; have zkr1_ := blk_frozen NZ.b 1; have kr2_ : W32.cell? ⟨gr, 2, none⟩ = some (.slice Az2 rc3.length cz2) := (blk_cell NZ.b 2).trans rfl; have zkr2_ := blk_frozen NZ.b 2))
              go_ret
              exact ⟨by first | rfl | (simp; done) | (simp [*]; done), PP.hb⟩
          · have zEB1 : (rb6 == 0) = false := beq_eq_false_iff_ne.mpr e_
            have zEB2 : (rb6 != 0) = true := bne_iff_ne.mpr e_
            skip
            clear e_
            by_cases e_ : rc4 = 0
            · have zEC1 : (rc4 == 0) = true := beq_iff_eq.mpr e_
              have zEC2 : (rc4 != 0) = false := bne_eq_false_iff_eq.mpr e_
              have EC := Aside0.mk e_
              clear e_
              go_wp2_with (first | ((with_reducible refine gate_dst (N := 22) rfl ?_); refine box_event ?hg (N := 22) ?hd (cs := #[.int .i64 0, .slice none 0 0, .slice none 0 0]) (t := 25) ?hr ?_; (case hd => rfl); (case hg => rfl); (case hr => first | (go_simp; done) | (go_simp; rfl)); intro gr hgr W29 Br hb_; have wgr : W28.heap.size ≤ gr := Nat.le_of_eq hgr.symm; have HC : Below W28.heap.size W28 W29 := hb_; clear hgr hb_; have pr0_ : W29.cell? ⟨gr, 0, none⟩ = some (.int .i64 0) := (blk_cell Br 0).trans rfl; have zpr0_ := blk_frozen Br 0; have pr1_ : W29.cell? ⟨gr, 1, none⟩ = some (.slice none 0 0) := (blk_cell Br 1).trans rfl; have zpr1_ := blk_frozen Br 1; have pr2_ : W29.cell? ⟨gr, 2, none⟩ = some (.slice none 0 0) := (blk_cell Br 2).trans rfl; have zpr2_ := blk_frozen Br 2) | ((with_reducible refine gate_store (t := 25) (p := 22) rfl ?_); refine store_event (t := 25) (p := 22) (v := ?vo22_) (w1 := (((W29.setCell ⟨gr, 0, none⟩ (.int .i64 rc1)).setCell ⟨gr, 1, none⟩ (.slice Az1 rc2.length cz1)).setCell ⟨gr, 2, none⟩ (.slice Az2 rc3.length cz2))) ?hg ?ho ?hn ?hr ?_; (case ho => rfl); (case hg => rfl); (case hn => rfl); (case hr => first | (go_simp; done) | (go_simp; rfl)); intro W30 hw; have B_ := (by rw [hw]; exact bp3_ Br : W30.heap[gr]? = some (.cells #[.int .i64 rc1, .slice Az1 rc2.length cz1, .slice Az2 rc3.length cz2] 25 (0, 0))); have HC_ := (by rw [hw]; exact (below_set (below_set (below_set HC wgr) wgr) wgr) : Below W28.heap.size W28 W30); clear hw HC Br; have HC := HC_; have Br := B_; clear HC_ B_; (try clear pr0_); (try clear zpr0_); (try clear pr1_); (try clear zpr1_); (try clear pr2_); (try clear zpr2_); have NZ := (⟨Br, (by have := HC.size; omega), fun h0 => ⟨Kd.V_below (hV (by first | exact h0 | trivial)).1 HC, Kd.V_below (hV (by first | exact h0 | trivial)).2 HC⟩⟩ : kk.NB W30 g gr 0 rc1 Az1 cz1 rc2 Az2 cz2 rc3); replace PP := PP.below HC; replace NA := NA.below HC; replace NB := NB.below HC; replace NC := NC.below HC; replace NX := NX.below HC; replace NY := NY.below HC; have hgW := Nat.lt_of_lt_of_le hgW HC.size; clear HC Br hV; (try clear pr0_); (try clear zpr0_); (try clear pr1_); (try clear zpr1_); (try clear pr2_); (try clear zpr2_); have ka0_ : W30.cell? ⟨ga, 0, none⟩ = some (.int .i64 ra1) := (blk_cell NA.b 0).trans rfl; have zka0_ := blk_frozen NA.b 0; have ka1_ : W30.cell? ⟨ga, 1, none⟩ = some (.slice Aa1 ra2.length ca1) := (blk_cell NA.b 1).trans rfl; have zka1_ := blk_frozen NA.b 1; have ka2_ : W30.cell? ⟨ga, 2, none⟩ = some (.slice Aa2 ra3.length ca2) := (blk_cell NA.b 2).trans rfl; have zka2_ := blk_frozen NA.b 2; have kt0_ : W30.cell? ⟨gt, 0, none⟩ = some (.int .i64 rb1) := (blk_cell NB.b 0).trans rfl; have zkt0_ := blk_frozen NB.b 0; have kt1_ : W30.cell? ⟨gt, 1, none⟩ = some (.slice Ab1 rb2.length cb1) := (blk_cell NB.b 1).trans rfl; have zkt1_ := blk_frozen NB.b 1; have kt2_ : W30.cell? ⟨gt, 2, none⟩ = some (.slice Ab2 rb3.length cb2) := (blk_cell NB.b 2).trans rfl; have zkt2_ := blk_frozen NB.b 2; have kc0_ : W30.cell? ⟨gc, 0, none⟩ = some (.int .i64 rc1) := (blk_cell NC.b 0).trans rfl; have zkc0_ := blk_frozen NC.b 0; have kc1_ : W30.cell? ⟨gc, 1, none⟩ = some (.slice Ac1 rc2.length cc1) := (blk_cell NC.b 1).trans rfl; have zkc1_ := blk_frozen NC.b 1; have kc2_ : W30.cell? ⟨gc, 2, none⟩ = some (.slice Ac2 rc3.length cc2) := (blk_cell NC.b 2).trans rfl; have zkc2_ := blk_frozen NC.b 2; have kp0_ : W30.cell? ⟨gp, 0, none⟩ = some (.int .i64 ra1) := (blk_cell NX.b 0).trans rfl; have zkp0_ := blk_frozen NX.b 0; have kp1_ : W30.cell? ⟨gp, 1, none⟩ = some (.slice Ax1 ra2.length cx1) := (blk_cell NX.b 1).trans rfl; have zkp1_ := blk_frozen NX.b 1; have kp2_ : W30.cell? ⟨gp, 2, none⟩ = some (.slice Ax2 ra3.length cx2) := (blk_cell NX.b 2).trans rfl; have zkp2_ := blk_frozen NX.b 2; have kq0_ : W30.cell? ⟨gq, 0, none⟩ = some (.int .i64 rb1) := (blk_cell NY.b 0).trans rfl; have zkq0_ := blk_frozen NY.b 0; have kq1_ : W30.cell? ⟨gq, 1, none⟩ = some (.slice Ay1 rb2.length cy1) := (blk_cell NY.b 1).trans rfl; have zkq1_ := blk_frozen NY.b 1; have kq2_ : W30.cell? ⟨gq, 2, none⟩ = some (.slice Ay2 rb3.length cy2) := (blk_cell NY.b 2).trans rfl; have zkq2_ := blk_frozen NY.b 2; have kr0_ : W30.cell? ⟨gr, 0, none⟩ = some (.int .i64 rc1) := (blk_cell NZ.b 0).trans rfl; have zkr0_ := blk_frozen NZ.b 0; have kr1_ : W30.cell? ⟨gr, 1, none⟩ = some (.slice Az1 rc2.length cz1) := (blk_cell NZ.b 1).trans rfl; have zkr1_ := blk_frozen NZ.b 1; have kr2_ : W30.cell? ⟨gr, 2, none⟩ = some (.slice Az2 rc3.length cz2) := (blk_cell NZ.b 2).trans rfl; have zkr2_ := blk_frozen NZ.b 2) | (go_at_call 18; (with_reducible refine (chamberlainref06_Same.calls 3000 rc1 Ac1 cc1 rc2 Ac2 cc2 rc3 rc1 Az1 cz1 rc2 Az2 cz2 rc3 true _ (Kd.V_reads' (NC.v EC.out).1).2.2 (Kd.V_reads' (NC.v EC.out).1).2.1 (Kd.V_reads' (NC.v EC.out).2).2.2 (Kd.V_reads' (NC.v EC.out).2).2.1 (Kd.V_reads' (NZ.v rfl).1).2.2 (Kd.V_reads' (NZ.v rfl).1).2.1 (Kd.V_reads' (NZ.v rfl).2).2.2 (Kd.V_reads' (NZ.v rfl).2).2.1 ASc.out).mono ?_); rintro e W33 ⟨rfl, hb_⟩; replace PP := PP.below hb_; clear hb_; (try clear ka0_); (try clear zka0_); (try clear ka1_); (try clear zka1_); (try clear ka2_); (try clear zka2_); (try clear kt0_); (try clear zkt0_); (try clear kt1_); (try clear zkt1_); (try clear kt2_); (try clear zkt2_); (try clear kc0_); (try clear zkc0_); (try clear kc1_); (try clear zkc1_); (try clear kc2_); (try clear zkc2_); (try clear kp0_); (try clear zkp0_); (try clear kp1_); (try clear zkp1_); (try clear kp2_); (try clear zkp2_); (try clear kq0_); (try clear zkq0_); (try clear kq1_); (try clear zkq1_); (try clear kq2_); (try clear zkq2_); (try clear kr0_); (try clear zkr0_); (try clear kr1_); (try clear zkr1_); (try clear kr2_); (try clear zkr2_)))
              go_ret
              exact ⟨by first | rfl | (simp; done) | (simp [*]; done), PP.hb⟩
            · have zEC1 : (rc4 == 0) = false := beq_eq_false_iff_ne.mpr e_
              have zEC2 : (rc4 != 0) = true := bne_iff_ne.mpr e_
              skip
              clear e_
              go_wp2_with (first | ((with_reducible refine gate_dst (N := 22) rfl ?_); refine box_event ?hg (N := 22) ?hd (cs := #[.int .i64 0, .slice none 0 0, .slice none 0 0]) (t := 25) ?hr ?_; (case hd => rfl); (case hg => rfl); (case hr => first | (go_simp; done) | (go_simp; rfl)); intro gr hgr W29 Br hb_; have wgr : W28.heap.size ≤ gr := Nat.le_of_eq hgr.symm; have HC : Below W28.heap.size W28 W29 := hb_; clear hgr hb_; have pr0_ : W29.cell? ⟨gr, 0, none⟩ = some (.int .i64 0) := (blk_cell Br 0).trans rfl; have zpr0_ := blk_frozen Br 0; have pr1_ : W29.cell? ⟨gr, 1, none⟩ = some (.slice none 0 0) := (blk_cell Br 1).trans rfl; have zpr1_ := blk_frozen Br 1; have pr2_ : W29.cell? ⟨gr, 2, none⟩ = some (.slice none 0 0) := (blk_cell Br 2).trans rfl; have zpr2_ := blk_frozen Br 2) | ((with_reducible refine gate_store (t := 25) (p := 22) rfl ?_); refine store_event (t := 25) (p := 22) (v := ?vo22_) (w1 := (((W29.setCell ⟨gr, 0, none⟩ (.int .i64 rc1)).setCell ⟨gr, 1, none⟩ (.slice Az1 rc2.length cz1)).setCell ⟨gr, 2, none⟩ (.slice Az2 rc3.length cz2))) ?hg ?ho ?hn ?hr ?_; (case ho => rfl); (case hg => rfl); (case hn => rfl); (case hr => first | (go_simp; done) | (go_simp; rfl)); intro W30 hw; have B_ := (by rw [hw]; exact bp3_ Br : W30.heap[gr]? = some (.cells #[.int .i64 rc1, .slice Az1 rc2.length cz1, .slice Az2 rc3.length cz2] 25 (0, 0))); have HC_ := (by rw [hw]; exact (below_set (below_set (below_set HC wgr) wgr) wgr) : Below W28.heap.size W28 W30); clear hw HC Br; have HC := HC_; have Br := B_; clear HC_ B_; (try clear pr0_); (try clear zpr0_); (try clear pr1_); (try clear zpr1_); (try clear pr2_); (try clear zpr2_); have NZ := (⟨Br, (by have := HC.size; omega), fun h0 => ⟨Kd.V_below (hV (by first | exact h0 | trivial)).1 HC, Kd.V_below (hV (by first | exact h0 | trivial)).2 HC⟩⟩ : kk.NB W30 g gr 0 rc1 Az1 cz1 rc2 Az2 cz2 rc3); replace PP := PP.below HC; replace NA := NA.below HC; replace NB := NB.below HC; replace NC := NC.below HC; replace NX := NX.below HC; replace NY := NY.below HC; have hgW := Nat.lt_of_lt_of_le hgW HC.size; clear HC Br hV; (try clear pr0_); (try clear zpr0_); (try clear pr1_); (try clear zpr1_); (try clear pr2_); (try clear zpr2_); have ka0_ : W30.cell? ⟨ga, 0, none⟩ = some (.int .i64 ra1) := (blk_cell NA.b 0).trans rfl; have zka0_ := blk_frozen NA.b 0; have ka1_ : W30.cell? ⟨ga, 1, none⟩ = some (.slice Aa1 ra2.length ca1) := (blk_cell NA.b 1).trans rfl; have zka1_ := blk_frozen NA.b 1; have ka2_ : W30.cell? ⟨ga, 2, none⟩ = some (.slice Aa2 ra3.length ca2) := (blk_cell NA.b 2).trans rfl; have zka2_ := blk_frozen NA.b 2; have kt0_ : W30.cell? ⟨gt, 0, none⟩ = some (.int .i64 rb1) := (blk_cell NB.b 0).trans rfl; have zkt0_ := blk_frozen NB.b 0; have kt1_ : W30.cell? ⟨gt, 1, none⟩ = some (.slice Ab1 rb2.length cb1) := (blk_cell NB.b 1).trans rfl; have zkt1_ := blk_frozen NB.b 1; have kt2_ : W30.cell? ⟨gt, 2, none⟩ = some (.slice Ab2 rb3.length cb2) := (blk_cell NB.b 2).trans rfl; have zkt2_ := blk_frozen NB.b 2; have kc0_ : W30.cell? ⟨gc, 0, none⟩ = some (.int .i64 rc1) := (blk_cell NC.b 0).trans rfl; have zkc0_ := blk_frozen NC.b 0; have kc1_ : W30.cell? ⟨gc, 1, none⟩ = some (.slice Ac1 rc2.length cc1) := (blk_cell NC.b 1).trans rfl; have zkc1_ := blk_frozen NC.b 1; have kc2_ : W30.cell? ⟨gc, 2, none⟩ = some (.slice Ac2 rc3.length cc2) := (blk_cell NC.b 2).trans rfl; have zkc2_ := blk_frozen NC.b 2; have kp0_ : W30.cell? ⟨gp, 0, none⟩ = some (.int .i64 ra1) := (blk_cell NX.b 0).trans rfl; have zkp0_ := blk_frozen NX.b 0; have kp1_ : W30.cell? ⟨gp, 1, none⟩ = some (.slice Ax1 ra2.length cx1) := (blk_cell NX.b 1).trans rfl; have zkp1_ := blk_frozen NX.b 1; have kp2_ : W30.cell? ⟨gp, 2, none⟩ = some (.slice Ax2 ra3.length cx2) := (blk_cell NX.b 2).trans rfl; have zkp2_ := blk_frozen NX.b 2; have kq0_ : W30.cell? ⟨gq, 0, none⟩ = some (.int .i64 rb1) := (blk_cell NY.b 0).trans rfl; have zkq0_ := blk_frozen NY.b 0; have kq1_ : W30.cell? ⟨gq, 1, none⟩ = some (.slice Ay1 rb2.length cy1) := (blk_cell NY.b 1).trans rfl; have zkq1_ := blk_frozen NY.b 1; have kq2_ : W30.cell? ⟨gq, 2, none⟩ = some (.slice Ay2 rb3.length cy2) := (blk_cell NY.b 2).trans rfl; have zkq2_ := blk_frozen NY.b 2; have kr0_ : W30.cell? ⟨gr, 0, none⟩ = some (.int .i64 rc1) := (blk_cell NZ.b 0).trans rfl; have zkr0_ := blk_frozen NZ.b 0; have kr1_ : W30.cell? ⟨gr, 1, none⟩ = some (.slice Az1 rc2.length cz1) := (blk_cell NZ.b 1).trans rfl; have zkr1_ := blk_frozen NZ.b 1; have kr2_ : W30.cell? ⟨gr, 2, none⟩ = some (.slice Az2 rc3.length cz2) := (blk_cell NZ.b 2).trans rfl; have zkr2_ := blk_frozen NZ.b 2))
              go_ret
              exact ⟨by first | rfl | (simp; done) | (simp [*]; done), PP.hb⟩

end Go.Proofs.Ytlbfdmoocgjiaaa.PNetKeeps
