-- Written for this claim by wip/tools/myprint.py (print.py's forms; proofs of the faked functions by hand).
import Derived.Test.YtifdlpnpbicahaaPBoxKeepsx1
import Derived.Test.YtifdlpnpbicahaaPBoxKeepsx3
import Derived.Test.YtifdlpnpbicahaaPBoxKeepsx4
import Derived.Test.YtifdlpnpbicahaaPBoxKeepsx0
import Derived.Test.YtifdlpnpbicahaaPBoxKeepsx2
namespace Go.Proofs.Ytifdlpnpbicahaa.PBoxKeeps
open Go.RowKit Go.Proofs.YtifdlpnpbicahaaW.PrintWords Go.Proofs.YtifdlpnpbicahaaW.PrintLast Go.Proofs.YtifdlpnpbicahaaW.PrintMore
attribute [local go_sem] max2_int min2_int max_two min_two max_three min_three max_four min_four   -- for this text's walks alone
set_option linter.unusedVariables false
set_option linter.unusedSimpArgs false

/-! ### chamberlainref07_Same: function 16 -/
mutual
def chamberlainref07_Same.j0 : Nat → Bool → Int → List (S43) → Int → List (S43) → Option (Bool)
  | 0, _, _, _, _, _ => none
  | k + 1, x21, x243000, x243001, x244000, x244001 => if x21 = true then (some false) else (chamberlainref07_Same.l0 k 0 x243000 x243001 x244000 x244001)
def chamberlainref07_Same.l0 : Nat → Int → Int → List (S43) → Int → List (S43) → Option (Bool)
  | 0, _, _, _, _, _ => none
  | k + 1, x5, x243000, x243001, x244000, x244001 => if x5 < (x243001.length : Int) then (if 0 ≤ x5 then (if x5 < (x244001.length : Int) then (if ((rd_T43 x243001 x5).f0) = ((rd_T43 x244001 x5).f0) then (if ((rd_T43 x243001 x5).f1) = ((rd_T43 x244001 x5).f1) then (if ((rd_T43 x243001 x5).f2) = ((rd_T43 x244001 x5).f2) then ((chamberlainref01_Same.f k ((rd_T43 x243001 x5).f3) ((rd_T43 x244001 x5).f3)).bind fun t248 => (if t248 = true then (chamberlainref07_Same.l0 k (wrap64 (x5 + 1)) x243000 x243001 x244000 x244001) else (some false))) else (some false)) else (some false)) else (some false)) else (none)) else (none)) else (some true)
end
def chamberlainref07_Same.f (k : Nat) (a0_0 : Int) (l0_1 : List (S43)) (a1_0 : Int) (l1_1 : List (S43)) : Option (Bool) := if a0_0 = a1_0 then (chamberlainref07_Same.j0 k ((l0_1.length : Int) != (l1_1.length : Int)) a0_0 l0_1 a1_0 l1_1) else (chamberlainref07_Same.j0 k true a0_0 l0_1 a1_0 l1_1)
theorem chamberlainref07_Same.mono_l : ∀ k, (∀ y0 y1 y2 y3 y4, LeO (chamberlainref07_Same.j0 k y0 y1 y2 y3 y4) (chamberlainref07_Same.j0 (k + 1) y0 y1 y2 y3 y4)) ∧ (∀ y0 y1 y2 y3 y4, LeO (chamberlainref07_Same.l0 k y0 y1 y2 y3 y4) (chamberlainref07_Same.l0 (k + 1) y0 y1 y2 y3 y4))
  | 0 => ⟨fun _ _ _ _ _ r h => by simp [chamberlainref07_Same.j0] at h, fun _ _ _ _ _ r h => by simp [chamberlainref07_Same.l0] at h⟩
  | k + 1 => by
    obtain ⟨ih0, ih1⟩ := chamberlainref07_Same.mono_l k
    refine ⟨?_, ?_⟩
    · intro y0 y1 y2 y3 y4
      unfold chamberlainref07_Same.j0
      repeat' first
      | (with_reducible exact ih0 _ _ _ _ _)
      | (with_reducible exact ih1 _ _ _ _ _)
      | (with_reducible exact chamberlainref01_Same.mono _ _ _)
      | (with_reducible exact LeO.refl _)
      | (with_reducible exact LeO.none _)
      | (with_reducible refine LeO.ite ?_ ?_)
      | (with_reducible refine LeO.bind ?_ (fun _ => ?_))
      | exact ih0 _ _ _ _ _
      | exact ih1 _ _ _ _ _
      | exact chamberlainref01_Same.mono _ _ _
      | exact LeO.none _
      | refine LeO.ite ?_ ?_
      | refine LeO.bind ?_ (fun _ => ?_)
    · intro y0 y1 y2 y3 y4
      unfold chamberlainref07_Same.l0
      repeat' first
      | (with_reducible exact ih0 _ _ _ _ _)
      | (with_reducible exact ih1 _ _ _ _ _)
      | (with_reducible exact chamberlainref01_Same.mono _ _ _)
      | (with_reducible exact LeO.refl _)
      | (with_reducible exact LeO.none _)
      | (with_reducible refine LeO.ite ?_ ?_)
      | (with_reducible refine LeO.bind ?_ (fun _ => ?_))
      | exact ih0 _ _ _ _ _
      | exact ih1 _ _ _ _ _
      | exact chamberlainref01_Same.mono _ _ _
      | exact LeO.none _
      | refine LeO.ite ?_ ?_
      | refine LeO.bind ?_ (fun _ => ?_)
theorem chamberlainref07_Same.mono : ∀ a0 a1 a2 a3 k, LeO (chamberlainref07_Same.f k a0 a1 a2 a3) (chamberlainref07_Same.f (k + 1) a0 a1 a2 a3) := by
  intro a0 a1 a2 a3 k
  obtain ⟨ih0, ih1⟩ := chamberlainref07_Same.mono_l k
  unfold chamberlainref07_Same.f
  repeat' first
      | (with_reducible exact ih0 _ _ _ _ _)
      | (with_reducible exact ih1 _ _ _ _ _)
      | (with_reducible exact chamberlainref01_Same.mono _ _ _)
      | (with_reducible exact LeO.refl _)
      | (with_reducible exact LeO.none _)
      | (with_reducible refine LeO.ite ?_ ?_)
      | (with_reducible refine LeO.bind ?_ (fun _ => ?_))
      | exact ih0 _ _ _ _ _
      | exact ih1 _ _ _ _ _
      | exact chamberlainref01_Same.mono _ _ _
      | exact LeO.none _
      | refine LeO.ite ?_ ?_
      | refine LeO.bind ?_ (fun _ => ?_)
set_option maxHeartbeats 8000000 in
set_option maxRecDepth 100000 in
theorem chamberlainref07_Same.calls (k : Nat) (a0_0 : Int) (A0_1 : Option Addr) (c0_1 : Nat) (l0_1 : List (S43)) (a1_0 : Int) (A1_1 : Option Addr) (c1_1 : Nat) (l1_1 : List (S43)) (r : Bool) (w : World) (hr0_1 : Kd.C k43 w A0_1 l0_1.length l0_1) (hc0_1 : l0_1.length ≤ c0_1) (hr1_1 : Kd.C k43 w A1_1 l1_1.length l1_1) (hc1_1 : l1_1.length ≤ c1_1) (h : chamberlainref07_Same.f k a0_0 l0_1 a1_0 l1_1 = some r) :
    Calls Try.prog 16 #[.agg #[.int .i64 a0_0, .slice A0_1 l0_1.length c0_1], .agg #[.int .i64 a1_0, .slice A1_1 l1_1.length c1_1]] w fun e w' => e = .returned (.bool r) ∧ Below w.heap.size w w' := by
  have hu24 := Try.underlying24
  have hu43 := Try.underlying43
  have HR0_1 := Aside0.mk hr0_1
  have HC0_1 := Aside0.mk hc0_1
  clear hr0_1 hc0_1
  have HR1_1 := Aside0.mk hr1_1
  have HC1_1 := Aside0.mk hc1_1
  clear hr1_1 hc1_1
  have HB := Aside0.mk (Below.refl w.heap.size w)
  have H : (if a0_0 = a1_0 then (chamberlainref07_Same.j0 k ((l0_1.length : Int) != (l1_1.length : Int)) a0_0 l0_1 a1_0 l1_1) else (chamberlainref07_Same.j0 k true a0_0 l0_1 a1_0 l1_1)) = some r := h
  clear h
  have HC3 := Aside0.mk H
  clear H
  go_enter Try.func16, Try.ntmps16
  go_upto_region 1 with (first | ((with_reducible refine gate_dst (N := 2) rfl ?_); (try (refine gate_guard (by rfl) ?_; dsimp only)); refine box_event ?hg (N := 2) ?hd (cs := #[.int .i64 a0_0, .slice A0_1 l0_1.length c0_1]) (t := 24) ?hr ?_; (case hd => rfl); (case hg => rfl); (case hr => first | (go_simp; done) | (go_simp; rfl)); intro gb242 hg w4 hbox hb; have n0_ := Aside0.mk (bs_ hb); have n1_ := Aside0.mk (hbox); have n3_ := Aside0.mk ((ge_ hg : w.heap.size ≤ gb242)); clear HB; have HB := n0_; have BK242 := n1_; have GE242 := n3_; clear n0_ n1_ n3_; clear hb hbox hg) | ((with_reducible refine gate_dst (N := 3) rfl ?_); (try (refine gate_guard (by rfl) ?_; dsimp only)); refine box_event ?hg (N := 3) ?hd (cs := #[.int .i64 a1_0, .slice A1_1 l1_1.length c1_1]) (t := 24) ?hr ?_; (case hd => rfl); (case hg => rfl); (case hr => first | (go_simp; done) | (go_simp; rfl)); intro gb243 hg w5 hbox hb; have n0_ := Aside0.mk (bb_ BK242.out hb); have n1_ := Aside0.mk (bs_ hb); have n2_ := Aside0.mk (hbox); have n4_ := Aside0.mk ((ge_ hg : w.heap.size ≤ gb243)); have n5_ := Aside0.mk ((by rw [hg]; exact Nat.ne_of_lt (blk_lt (g := gb242) (o := .cells #[.int .i64 a0_0, .slice A0_1 l0_1.length c0_1] 24 (0, 0)) (by (with_reducible repeat (first | refine blk_drewN ?_ _ | refine blk_drew ?_ | refine blk_alloc ?_ _)); exact BK242.out)) : gb242 ≠ gb243)); have n6_ := Aside0.mk ((by rw [hg]; exact Nat.ne_of_gt (blk_lt (g := gb242) (o := .cells #[.int .i64 a0_0, .slice A0_1 l0_1.length c0_1] 24 (0, 0)) (by (with_reducible repeat (first | refine blk_drewN ?_ _ | refine blk_drew ?_ | refine blk_alloc ?_ _)); exact BK242.out)) : gb243 ≠ gb242)); clear BK242 HB; have BK242 := n0_; have HB := n1_; have BK243 := n2_; have GE243 := n4_; have NB242_243 := n5_; have NB243_242 := n6_; clear n0_ n1_ n2_ n4_ n5_ n6_; clear hb hbox hg))
  (try simp only [Act.put, List.setIfInBounds_toArray, List.set_cons_zero, List.set_cons_succ])
  go_cut [21] (fun v21 wc => ∃ (kq : Nat) (x21_2 : Bool), v21 = .bool x21_2 ∧ Aside0 (chamberlainref07_Same.j0 kq x21_2 a0_0 l0_1 a1_0 l1_1 = some r) ∧ Aside0 (kq ≤ k) ∧ Aside0 (wc.heap[gb242]? = some (.cells #[.int .i64 a0_0, (.slice A0_1 l0_1.length c0_1)] 24 (0, 0))) ∧ Aside0 (wc.heap[gb243]? = some (.cells #[.int .i64 a1_0, (.slice A1_1 l1_1.length c1_1)] 24 (0, 0))) ∧ Aside0 (Below w.heap.size w wc))
  case first =>
    have H := HC3.out
    clear HC3
    by_cases c6 : a0_0 = a1_0
    · rw [if_pos c6] at H
      have c6b0 : (a0_0 == a1_0) = true := beq_iff_eq.mpr c6
      have c6b1 : (a0_0 != a1_0) = false := bne_eq_false_iff_eq.mpr c6
      clear c6
      (first | rw [c6b0] | (simp only [i64_w, i32_w]; rw [c6b0]) | skip)
      have H' := Aside0.mk H
      clear H
      have hnb7 := NB242_243.out
      have hnc7 := NB243_242.out
      have ⟨hcz8_0, hcz8_1⟩ := cz2_ BK242.out
      have ⟨hfz8_0, hfz8_1⟩ := fz2_ BK242.out
      have ⟨hcz9_0, hcz9_1⟩ := cz2_ BK243.out
      have ⟨hfz9_0, hfz9_1⟩ := fz2_ BK243.out
      go_wp2
      go_meet
      case rel => exact ⟨_, (((l0_1.length : Int) != (l1_1.length : Int))), (by first | rfl | (simp; done) | (simp [*]; done)), H', ⟨by first | omega | exact Nat.le_refl _⟩, ⟨by (with_reducible repeat (first | refine blk_drewN ?_ _ | refine blk_drew ?_ | refine blk_alloc ?_ _)); exact BK242.out⟩, ⟨by (with_reducible repeat (first | refine blk_drewN ?_ _ | refine blk_drew ?_ | refine blk_alloc ?_ _)); exact BK243.out⟩, ⟨by repeat (first | (with_reducible first | exact HB.out | apply below_alloc | apply pw_below_drewN | apply below_drew1 | refine below_set ?_ GE242.out | refine below_set ?_ GE243.out) | exact HB.out)⟩⟩
    · rw [if_neg c6] at H
      have c6b0 : (a0_0 == a1_0) = false := beq_eq_false_iff_ne.mpr c6
      have c6b1 : (a0_0 != a1_0) = true := bne_iff_ne.mpr c6
      (first | rw [c6b0] | (simp only [i64_w, i32_w]; rw [c6b0]) | skip)
      have H' := Aside0.mk H
      clear H
      have hnb10 := NB242_243.out
      have hnc10 := NB243_242.out
      have ⟨hcz11_0, hcz11_1⟩ := cz2_ BK242.out
      have ⟨hfz11_0, hfz11_1⟩ := fz2_ BK242.out
      have ⟨hcz12_0, hcz12_1⟩ := cz2_ BK243.out
      have ⟨hfz12_0, hfz12_1⟩ := fz2_ BK243.out
      go_wp2
      go_meet
      case rel => exact ⟨_, (true), (by first | rfl | (simp; done) | (simp [*]; done)), H', ⟨by first | omega | exact Nat.le_refl _⟩, ⟨by (with_reducible repeat (first | refine blk_drewN ?_ _ | refine blk_drew ?_ | refine blk_alloc ?_ _)); exact BK242.out⟩, ⟨by (with_reducible repeat (first | refine blk_drewN ?_ _ | refine blk_drew ?_ | refine blk_alloc ?_ _)); exact BK243.out⟩, ⟨by repeat (first | (with_reducible first | exact HB.out | apply below_alloc | apply pw_below_drewN | apply below_drew1 | refine below_set ?_ GE242.out | refine below_set ?_ GE243.out) | exact HB.out)⟩⟩
  case rest =>
    clear HC3
    try clear c1
    try clear p2
    try clear c6
    try clear c6b0
    try clear c6b1
    try clear c7
    try clear c10
    try clear hcz11_0
    try clear hcz11_1
    try clear hcz12_0
    try clear hcz12_1
    try clear hcz8_0
    try clear hcz8_1
    try clear hcz9_0
    try clear hcz9_1
    try clear hfz11_0
    try clear hfz11_1
    try clear hfz12_0
    try clear hfz12_1
    try clear hfz8_0
    try clear hfz8_1
    try clear hfz9_0
    try clear hfz9_1
    obtain ⟨kq, x21_2, rfl, HA, HJ2, BK242, BK243, HB⟩ := hcut
    cases kq with
    | zero => exact absurd HA.out (by simp [chamberlainref07_Same.j0])
    | succ kj2 =>
      have H := HA.out
      clear HA
      simp only [chamberlainref07_Same.j0] at H
      by_cases c13 : x21_2 = true
      · subst c13
        have H1 : (some false) = some r := by rw [if_pos rfl] at H; exact H
        clear H
        have H := H1
        clear H1
        obtain rfl := Option.some.inj H
        go_wp2
        go_ret
        exact ⟨by first | rfl | (simp [errW_none, errW_some] <;> rfl) | (simp [*, errW_none, errW_some] <;> rfl), by repeat (first | (with_reducible first | exact HB.out | apply below_alloc | apply pw_below_drewN | apply below_drew1 | refine below_set ?_ GE242.out | refine below_set ?_ GE243.out) | exact HB.out)⟩
      · replace c13 := Bool.eq_false_iff.mpr c13
        subst c13
        have H1 : (chamberlainref07_Same.l0 kj2 0 a0_0 l0_1 a1_0 l1_1) = some r := by rw [if_neg (show ¬ (false = true) by decide)] at H; exact H
        clear H
        have H := H1
        clear H1
        have H' := Aside0.mk H
        clear H
        go_wp2
        go_loopg [5] kj2 (fun kq v5 w' => ∃ (x5_2 : Int), v5 = .int .i64 x5_2 ∧ Aside0 (chamberlainref07_Same.l0 kq x5_2 a0_0 l0_1 a1_0 l1_1 = some r) ∧ Aside0 (kq ≤ kj2) ∧ Aside0 (w'.heap[gb242]? = some (.cells #[.int .i64 a0_0, (.slice A0_1 l0_1.length c0_1)] 24 (0, 0))) ∧ Aside0 (w'.heap[gb243]? = some (.cells #[.int .i64 a1_0, (.slice A1_1 l1_1.length c1_1)] 24 (0, 0))) ∧ Aside0 (Below w.heap.size w w'))
        case atStart => exact ⟨(0), (by first | rfl | (simp; done) | (simp [*]; done)), H', ⟨Nat.le_refl _⟩, ⟨by (with_reducible repeat (first | refine blk_drewN ?_ _ | refine blk_drew ?_ | refine blk_alloc ?_ _)); exact BK242.out⟩, ⟨by (with_reducible repeat (first | refine blk_drewN ?_ _ | refine blk_drew ?_ | refine blk_alloc ?_ _)); exact BK243.out⟩, ⟨by repeat (first | (with_reducible first | exact HB.out | apply below_alloc | apply pw_below_drewN | apply below_drew1 | refine below_set ?_ GE242.out | refine below_set ?_ GE243.out) | exact HB.out)⟩⟩
        case round =>
          clear H'
          try clear c1
          try clear p2
          try clear c6
          try clear c6b0
          try clear c6b1
          try clear c7
          try clear c10
          try clear c13
          try clear hcz11_0
          try clear hcz11_1
          try clear hcz12_0
          try clear hcz12_1
          try clear hcz8_0
          try clear hcz8_1
          try clear hcz9_0
          try clear hcz9_1
          try clear hfz11_0
          try clear hfz11_1
          try clear hfz12_0
          try clear hfz12_1
          try clear hfz8_0
          try clear hfz8_1
          try clear hfz9_0
          try clear hfz9_1
          try clear p2
          obtain ⟨x5_2, rfl, HA, HK2, BK242, BK243, HB⟩ := hrel
          cases gk with
          | zero => exact absurd HA.out (by simp [chamberlainref07_Same.l0])
          | succ k2 =>
            have H := HA.out
            clear HA
            simp only [chamberlainref07_Same.l0] at H
            by_cases c14 : x5_2 < (l0_1.length : Int)
            · rw [if_pos c14] at H
              have c14b0 : decide (x5_2 < (l0_1.length : Int)) = true := decide_eq_true c14
              clear c14
              by_cases c15 : 0 ≤ x5_2
              · rw [if_pos c15] at H
                have c15b0 : decide (0 ≤ x5_2) = true := decide_eq_true c15
                clear c15
                by_cases c16 : x5_2 < (l1_1.length : Int)
                · rw [if_pos c16] at H
                  have c16b0 : decide (x5_2 < (l1_1.length : Int)) = true := decide_eq_true c16
                  clear c16
                  by_cases c17 : ((rd_T43 l0_1 x5_2).f0) = ((rd_T43 l1_1 x5_2).f0)
                  · rw [if_pos c17] at H
                    have c17b0 : (((rd_T43 l0_1 x5_2).f0) == ((rd_T43 l1_1 x5_2).f0)) = true := beq_iff_eq.mpr c17
                    have c17b1 : (((rd_T43 l0_1 x5_2).f0) != ((rd_T43 l1_1 x5_2).f0)) = false := bne_eq_false_iff_eq.mpr c17
                    clear c17
                    by_cases c18 : ((rd_T43 l0_1 x5_2).f1) = ((rd_T43 l1_1 x5_2).f1)
                    · rw [if_pos c18] at H
                      have c18b0 : (((rd_T43 l0_1 x5_2).f1) == ((rd_T43 l1_1 x5_2).f1)) = true := beq_iff_eq.mpr c18
                      have c18b1 : (((rd_T43 l0_1 x5_2).f1) != ((rd_T43 l1_1 x5_2).f1)) = false := bne_eq_false_iff_eq.mpr c18
                      clear c18
                      by_cases c19 : ((rd_T43 l0_1 x5_2).f2) = ((rd_T43 l1_1 x5_2).f2)
                      · rw [if_pos c19] at H
                        have c19b0 : (((rd_T43 l0_1 x5_2).f2) == ((rd_T43 l1_1 x5_2).f2)) = true := beq_iff_eq.mpr c19
                        have c19b1 : (((rd_T43 l0_1 x5_2).f2) != ((rd_T43 l1_1 x5_2).f2)) = false := bne_eq_false_iff_eq.mpr c19
                        clear c19
                        replace H := Option.bind_eq_some_iff.mp H
                        obtain ⟨t248, A200, H⟩ := H
                        replace H : (if t248 = true then (chamberlainref07_Same.l0 k2 (wrap64 (x5_2 + 1)) a0_0 l0_1 a1_0 l1_1) else (some false)) = some r := H
                        have A20 := Aside0.mk A200
                        clear A200
                        by_cases c21 : t248 = true
                        · subst c21
                          have H1 : (chamberlainref07_Same.l0 k2 (wrap64 (x5_2 + 1)) a0_0 l0_1 a1_0 l1_1) = some r := by rw [if_pos rfl] at H; exact H
                          clear H
                          have H := H1
                          clear H1
                          have H' := Aside0.mk H
                          clear H
                          have hnb22 := NB242_243.out
                          have hnc22 := NB243_242.out
                          have ⟨hcz23_0, hcz23_1⟩ := cz2_ BK242.out
                          have ⟨hfz23_0, hfz23_1⟩ := fz2_ BK242.out
                          have p244 : 0 ≤ (x5_2 : Int) := of_decide_eq_true (by first | (with_reducible assumption) | assumption)
                          have q244 : x5_2 < (l0_1.length : Int) := of_decide_eq_true (by first | (with_reducible assumption) | assumption)
                          obtain ⟨ad244, A244_3, c244_3, e244, hx244_0, hx244_1, hx244_2, hx244_3, hl244_3, hi244_3⟩ := at_T43 HR0_1.out x5_2 p244 q244
                          cases e244
                          replace hx244_0 := (HB.out.cell (World.block_lt_of_cell? w _ hx244_0)).trans hx244_0
                          replace hx244_1 := (HB.out.cell (World.block_lt_of_cell? w _ hx244_1)).trans hx244_1
                          replace hx244_2 := (HB.out.cell (World.block_lt_of_cell? w _ hx244_2)).trans hx244_2
                          replace hx244_3 := (HB.out.cell (World.block_lt_of_cell? w _ hx244_3)).trans hx244_3
                          have HR244_3 := Aside0.mk hi244_3
                          have HC244_3 := Aside0.mk hl244_3
                          clear hi244_3 hl244_3
                          replace p244 := eq_true p244
                          replace q244 := eq_true q244
                          go_wp2_with (first | ((with_reducible refine gate_dst (N := 6) rfl ?_); (try (refine gate_guard (by rfl) ?_; dsimp only)); refine box_event ?hg (N := 6) ?hd (cs := #[.int .u32 0, .int .u32 0, .int .u32 0, .slice none 0 0]) (t := 43) ?hr ?_; (case hd => rfl); (case hg => rfl); (case hr => first | (go_simp; done) | (go_simp; rfl)); intro gb245 hg w24 hbox hb; have n0_ := Aside0.mk (bb_ BK242.out hb); have n1_ := Aside0.mk (bb_ BK243.out hb); have n2_ := Aside0.mk (bs_ hb); have n3_ := Aside0.mk (hbox); have n4_ := Aside0.mk ((ge_ hg : w.heap.size ≤ gb245)); have n5_ := Aside0.mk ((ge_ hg : w.heap.size ≤ gb245)); have n6_ := Aside0.mk ((by rw [hg]; exact Nat.ne_of_lt (blk_lt (g := gb242) (o := .cells #[.int .i64 a0_0, .slice (some ad244) l0_1.length c0_1] 24 (0, 0)) (by (with_reducible repeat (first | refine blk_drewN ?_ _ | refine blk_drew ?_ | refine blk_alloc ?_ _)); exact BK242.out)) : gb242 ≠ gb245)); have n7_ := Aside0.mk ((by rw [hg]; exact Nat.ne_of_gt (blk_lt (g := gb242) (o := .cells #[.int .i64 a0_0, .slice (some ad244) l0_1.length c0_1] 24 (0, 0)) (by (with_reducible repeat (first | refine blk_drewN ?_ _ | refine blk_drew ?_ | refine blk_alloc ?_ _)); exact BK242.out)) : gb245 ≠ gb242)); have n8_ := Aside0.mk ((by rw [hg]; exact Nat.ne_of_lt (blk_lt (g := gb243) (o := .cells #[.int .i64 a1_0, .slice A1_1 l1_1.length c1_1] 24 (0, 0)) (by (with_reducible repeat (first | refine blk_drewN ?_ _ | refine blk_drew ?_ | refine blk_alloc ?_ _)); exact BK243.out)) : gb243 ≠ gb245)); have n9_ := Aside0.mk ((by rw [hg]; exact Nat.ne_of_gt (blk_lt (g := gb243) (o := .cells #[.int .i64 a1_0, .slice A1_1 l1_1.length c1_1] 24 (0, 0)) (by (with_reducible repeat (first | refine blk_drewN ?_ _ | refine blk_drew ?_ | refine blk_alloc ?_ _)); exact BK243.out)) : gb245 ≠ gb243)); clear BK242 BK243 HB; have BK242 := n0_; have BK243 := n1_; have HB := n2_; have BK245 := n3_; have GW245 := n4_; have GE245 := n5_; have NB242_245 := n6_; have NB245_242 := n7_; have NB243_245 := n8_; have NB245_243 := n9_; clear n0_ n1_ n2_ n3_ n4_ n5_ n6_ n7_ n8_ n9_; clear hb hbox hg; have hnb25 := NB245_242.out; have hnc25 := NB242_245.out; have hnb26 := NB245_243.out; have hnc26 := NB243_245.out; have ⟨hcz27_0, hcz27_1, hcz27_2, hcz27_3⟩ := cz4_ BK245.out; have ⟨hfz27_0, hfz27_1, hfz27_2, hfz27_3⟩ := fz4_ BK245.out; have ⟨hcz28_0, hcz28_1⟩ := cz2_ BK243.out; have ⟨hfz28_0, hfz28_1⟩ := fz2_ BK243.out; have p246 : 0 ≤ (x5_2 : Int) := of_decide_eq_true (by first | (with_reducible assumption) | assumption); have q246 : x5_2 < (l1_1.length : Int) := of_decide_eq_true (by first | (with_reducible assumption) | assumption); obtain ⟨ad246, A246_3, c246_3, e246, hx246_0, hx246_1, hx246_2, hx246_3, hl246_3, hi246_3⟩ := at_T43 HR1_1.out x5_2 p246 q246; cases e246; have hn246_0 : ad246.block ≠ gb245 := Nat.ne_of_lt (Nat.lt_of_lt_of_le (by have := World.block_lt_of_cell? _ _ hx246_0; first | rwa [add_block] at this | exact this) GW245.out); have hn246_1 : ad246.block ≠ gb245 := Nat.ne_of_lt (Nat.lt_of_lt_of_le (by have := World.block_lt_of_cell? _ _ hx246_0; first | rwa [add_block] at this | exact this) GW245.out); have hn246_2 : ad246.block ≠ gb245 := Nat.ne_of_lt (Nat.lt_of_lt_of_le (by have := World.block_lt_of_cell? _ _ hx246_0; first | rwa [add_block] at this | exact this) GW245.out); have hn246_3 : ad246.block ≠ gb245 := Nat.ne_of_lt (Nat.lt_of_lt_of_le (by have := World.block_lt_of_cell? _ _ hx246_0; first | rwa [add_block] at this | exact this) GW245.out); replace hx246_0 := (HB.out.cell (World.block_lt_of_cell? w _ hx246_0)).trans hx246_0; replace hx246_1 := (HB.out.cell (World.block_lt_of_cell? w _ hx246_1)).trans hx246_1; replace hx246_2 := (HB.out.cell (World.block_lt_of_cell? w _ hx246_2)).trans hx246_2; replace hx246_3 := (HB.out.cell (World.block_lt_of_cell? w _ hx246_3)).trans hx246_3; have HR246_3 := Aside0.mk hi246_3; have HC246_3 := Aside0.mk hl246_3; clear hi246_3 hl246_3; replace hx246_0 := (cell_far (p := ⟨gb245, 0, none⟩) (by first | (rw [add_block]; exact hn246_0) | (show (Addr.add _ _).block ≠ _; rw [add_block]; exact hn246_0) | exact hn246_0) (.int .u32 ((rd_T43 l0_1 x5_2).f0))).trans hx246_0; replace hx246_1 := (cell_far (p := ⟨gb245, 0, none⟩) (by first | (rw [add_block]; exact hn246_0) | (show (Addr.add _ _).block ≠ _; rw [add_block]; exact hn246_0) | exact hn246_0) (.int .u32 ((rd_T43 l0_1 x5_2).f0))).trans hx246_1; replace hx246_2 := (cell_far (p := ⟨gb245, 0, none⟩) (by first | (rw [add_block]; exact hn246_0) | (show (Addr.add _ _).block ≠ _; rw [add_block]; exact hn246_0) | exact hn246_0) (.int .u32 ((rd_T43 l0_1 x5_2).f0))).trans hx246_2; replace hx246_3 := (cell_far (p := ⟨gb245, 0, none⟩) (by first | (rw [add_block]; exact hn246_0) | (show (Addr.add _ _).block ≠ _; rw [add_block]; exact hn246_0) | exact hn246_0) (.int .u32 ((rd_T43 l0_1 x5_2).f0))).trans hx246_3; replace hx246_0 := (cell_far (p := ⟨gb245, 1, none⟩) (by first | (rw [add_block]; exact hn246_1) | (show (Addr.add _ _).block ≠ _; rw [add_block]; exact hn246_1) | exact hn246_1) (.int .u32 ((rd_T43 l0_1 x5_2).f1))).trans hx246_0; replace hx246_1 := (cell_far (p := ⟨gb245, 1, none⟩) (by first | (rw [add_block]; exact hn246_1) | (show (Addr.add _ _).block ≠ _; rw [add_block]; exact hn246_1) | exact hn246_1) (.int .u32 ((rd_T43 l0_1 x5_2).f1))).trans hx246_1; replace hx246_2 := (cell_far (p := ⟨gb245, 1, none⟩) (by first | (rw [add_block]; exact hn246_1) | (show (Addr.add _ _).block ≠ _; rw [add_block]; exact hn246_1) | exact hn246_1) (.int .u32 ((rd_T43 l0_1 x5_2).f1))).trans hx246_2; replace hx246_3 := (cell_far (p := ⟨gb245, 1, none⟩) (by first | (rw [add_block]; exact hn246_1) | (show (Addr.add _ _).block ≠ _; rw [add_block]; exact hn246_1) | exact hn246_1) (.int .u32 ((rd_T43 l0_1 x5_2).f1))).trans hx246_3; replace hx246_0 := (cell_far (p := ⟨gb245, 2, none⟩) (by first | (rw [add_block]; exact hn246_2) | (show (Addr.add _ _).block ≠ _; rw [add_block]; exact hn246_2) | exact hn246_2) (.int .u32 ((rd_T43 l0_1 x5_2).f2))).trans hx246_0; replace hx246_1 := (cell_far (p := ⟨gb245, 2, none⟩) (by first | (rw [add_block]; exact hn246_2) | (show (Addr.add _ _).block ≠ _; rw [add_block]; exact hn246_2) | exact hn246_2) (.int .u32 ((rd_T43 l0_1 x5_2).f2))).trans hx246_1; replace hx246_2 := (cell_far (p := ⟨gb245, 2, none⟩) (by first | (rw [add_block]; exact hn246_2) | (show (Addr.add _ _).block ≠ _; rw [add_block]; exact hn246_2) | exact hn246_2) (.int .u32 ((rd_T43 l0_1 x5_2).f2))).trans hx246_2; replace hx246_3 := (cell_far (p := ⟨gb245, 2, none⟩) (by first | (rw [add_block]; exact hn246_2) | (show (Addr.add _ _).block ≠ _; rw [add_block]; exact hn246_2) | exact hn246_2) (.int .u32 ((rd_T43 l0_1 x5_2).f2))).trans hx246_3; replace hx246_0 := (cell_far (p := ⟨gb245, 3, none⟩) (by first | (rw [add_block]; exact hn246_3) | (show (Addr.add _ _).block ≠ _; rw [add_block]; exact hn246_3) | exact hn246_3) (.slice A244_3 ((rd_T43 l0_1 x5_2).f3).length c244_3)).trans hx246_0; replace hx246_1 := (cell_far (p := ⟨gb245, 3, none⟩) (by first | (rw [add_block]; exact hn246_3) | (show (Addr.add _ _).block ≠ _; rw [add_block]; exact hn246_3) | exact hn246_3) (.slice A244_3 ((rd_T43 l0_1 x5_2).f3).length c244_3)).trans hx246_1; replace hx246_2 := (cell_far (p := ⟨gb245, 3, none⟩) (by first | (rw [add_block]; exact hn246_3) | (show (Addr.add _ _).block ≠ _; rw [add_block]; exact hn246_3) | exact hn246_3) (.slice A244_3 ((rd_T43 l0_1 x5_2).f3).length c244_3)).trans hx246_2; replace hx246_3 := (cell_far (p := ⟨gb245, 3, none⟩) (by first | (rw [add_block]; exact hn246_3) | (show (Addr.add _ _).block ≠ _; rw [add_block]; exact hn246_3) | exact hn246_3) (.slice A244_3 ((rd_T43 l0_1 x5_2).f3).length c244_3)).trans hx246_3; clear hn246_0; clear hn246_1; clear hn246_2; clear hn246_3; replace p246 := eq_true p246; replace q246 := eq_true q246) | ((with_reducible refine gate_dst (N := 7) rfl ?_); (try (refine gate_guard (by rfl) ?_; dsimp only)); refine box_event ?hg (N := 7) ?hd (cs := #[.int .u32 0, .int .u32 0, .int .u32 0, .slice none 0 0]) (t := 43) ?hr ?_; (case hd => rfl); (case hg => rfl); (case hr => first | (go_simp; done) | (go_simp; rfl)); intro gb247 hg w29 hbox hb; have n0_ := Aside0.mk (blk_below (g := gb242) (o := .cells #[.int .i64 a0_0, .slice (some ad244) l0_1.length c0_1] 24 (0, 0)) (bf4_ BK242.out NB242_245.out) hb); have n1_ := Aside0.mk (blk_below (g := gb243) (o := .cells #[.int .i64 a1_0, .slice (some ad246) l1_1.length c1_1] 24 (0, 0)) (bf4_ BK243.out NB243_245.out) hb); have n2_ := Aside0.mk (blk_below (g := gb245) (o := .cells #[.int .u32 ((rd_T43 l0_1 x5_2).f0), .int .u32 ((rd_T43 l0_1 x5_2).f1), .int .u32 ((rd_T43 l0_1 x5_2).f2), .slice A244_3 ((rd_T43 l0_1 x5_2).f3).length c244_3] 43 (0, 0)) (bp4_ BK245.out) hb); have n3_ := Aside0.mk (bs_ hb); have n4_ := Aside0.mk (hbox); have n6_ := Aside0.mk ((ge_ hg : w.heap.size ≤ gb247)); have n7_ := Aside0.mk ((by rw [hg]; exact Nat.ne_of_lt (blk_lt (g := gb242) (o := .cells #[.int .i64 a0_0, .slice (some ad244) l0_1.length c0_1] 24 (0, 0)) (bf4_ BK242.out NB242_245.out)) : gb242 ≠ gb247)); have n8_ := Aside0.mk ((by rw [hg]; exact Nat.ne_of_gt (blk_lt (g := gb242) (o := .cells #[.int .i64 a0_0, .slice (some ad244) l0_1.length c0_1] 24 (0, 0)) (bf4_ BK242.out NB242_245.out)) : gb247 ≠ gb242)); have n9_ := Aside0.mk ((by rw [hg]; exact Nat.ne_of_lt (blk_lt (g := gb243) (o := .cells #[.int .i64 a1_0, .slice (some ad246) l1_1.length c1_1] 24 (0, 0)) (bf4_ BK243.out NB243_245.out)) : gb243 ≠ gb247)); have n10_ := Aside0.mk ((by rw [hg]; exact Nat.ne_of_gt (blk_lt (g := gb243) (o := .cells #[.int .i64 a1_0, .slice (some ad246) l1_1.length c1_1] 24 (0, 0)) (bf4_ BK243.out NB243_245.out)) : gb247 ≠ gb243)); have n11_ := Aside0.mk ((by rw [hg]; exact Nat.ne_of_lt (blk_lt (g := gb245) (o := .cells #[.int .u32 ((rd_T43 l0_1 x5_2).f0), .int .u32 ((rd_T43 l0_1 x5_2).f1), .int .u32 ((rd_T43 l0_1 x5_2).f2), .slice A244_3 ((rd_T43 l0_1 x5_2).f3).length c244_3] 43 (0, 0)) (bp4_ BK245.out)) : gb245 ≠ gb247)); have n12_ := Aside0.mk ((by rw [hg]; exact Nat.ne_of_gt (blk_lt (g := gb245) (o := .cells #[.int .u32 ((rd_T43 l0_1 x5_2).f0), .int .u32 ((rd_T43 l0_1 x5_2).f1), .int .u32 ((rd_T43 l0_1 x5_2).f2), .slice A244_3 ((rd_T43 l0_1 x5_2).f3).length c244_3] 43 (0, 0)) (bp4_ BK245.out)) : gb247 ≠ gb245)); clear BK242 BK243 BK245 HB; have BK242 := n0_; have BK243 := n1_; have BK245 := n2_; have HB := n3_; have BK247 := n4_; have GE247 := n6_; have NB242_247 := n7_; have NB247_242 := n8_; have NB243_247 := n9_; have NB247_243 := n10_; have NB245_247 := n11_; have NB247_245 := n12_; clear n0_ n1_ n2_ n3_ n4_ n6_ n7_ n8_ n9_ n10_ n11_ n12_; clear hb hbox hg; have hnb30 := NB247_242.out; have hnc30 := NB242_247.out; have hnb31 := NB247_243.out; have hnc31 := NB243_247.out; have hnb32 := NB247_245.out; have hnc32 := NB245_247.out; have ⟨hcz33_0, hcz33_1, hcz33_2, hcz33_3⟩ := cz4_ BK247.out; have ⟨hfz33_0, hfz33_1, hfz33_2, hfz33_3⟩ := fz4_ BK247.out; have ⟨hcz34_0, hcz34_1, hcz34_2, hcz34_3⟩ := cz4_ BK245.out; have ⟨hfz34_0, hfz34_1, hfz34_2, hfz34_3⟩ := fz4_ BK245.out) | (go_at_call 17; (with_reducible refine (chamberlainref01_Same.calls k2 _ _ ((rd_T43 l0_1 x5_2).f3) _ _ ((rd_T43 l1_1 x5_2).f3) true _ ?side1 ?side2 ?side3 ?side4 A20.out).mono ?_); (case side1 => exact Kd.C_below HR244_3.out (by repeat (first | (with_reducible first | exact HB.out | apply below_alloc | apply pw_below_drewN | apply below_drew1 | refine below_set ?_ GE242.out | refine below_set ?_ GE243.out | refine below_set ?_ GE245.out | refine below_set ?_ GE247.out) | exact HB.out))); (case side2 => exact HC244_3.out); (case side3 => exact Kd.C_below HR246_3.out (by repeat (first | (with_reducible first | exact HB.out | apply below_alloc | apply pw_below_drewN | apply below_drew1 | refine below_set ?_ GE242.out | refine below_set ?_ GE243.out | refine below_set ?_ GE245.out | refine below_set ?_ GE247.out) | exact HB.out))); (case side4 => exact HC246_3.out); rintro e w' ⟨rfl, ⟨nd, rfl⟩⟩))
                          go_roundg k2
                          case measure => have := HJ2.out; have := HK2.out; omega
                          case rel => exact ⟨(wrap64 (x5_2 + 1)), (by first | rfl | (simp; done) | (simp [*]; done)), H', ⟨by have := HJ2.out; have := HK2.out; omega⟩, ⟨by (with_reducible repeat (first | refine blk_drewN ?_ _ | refine blk_drew ?_ | refine blk_alloc ?_ _)); refine blk_far ?_ NB242_247.out _; (with_reducible repeat (first | refine blk_drewN ?_ _ | refine blk_drew ?_ | refine blk_alloc ?_ _)); refine blk_far ?_ NB242_247.out _; (with_reducible repeat (first | refine blk_drewN ?_ _ | refine blk_drew ?_ | refine blk_alloc ?_ _)); refine blk_far ?_ NB242_247.out _; (with_reducible repeat (first | refine blk_drewN ?_ _ | refine blk_drew ?_ | refine blk_alloc ?_ _)); refine blk_far ?_ NB242_247.out _; (with_reducible repeat (first | refine blk_drewN ?_ _ | refine blk_drew ?_ | refine blk_alloc ?_ _)); exact BK242.out⟩, ⟨by (with_reducible repeat (first | refine blk_drewN ?_ _ | refine blk_drew ?_ | refine blk_alloc ?_ _)); refine blk_far ?_ NB243_247.out _; (with_reducible repeat (first | refine blk_drewN ?_ _ | refine blk_drew ?_ | refine blk_alloc ?_ _)); refine blk_far ?_ NB243_247.out _; (with_reducible repeat (first | refine blk_drewN ?_ _ | refine blk_drew ?_ | refine blk_alloc ?_ _)); refine blk_far ?_ NB243_247.out _; (with_reducible repeat (first | refine blk_drewN ?_ _ | refine blk_drew ?_ | refine blk_alloc ?_ _)); refine blk_far ?_ NB243_247.out _; (with_reducible repeat (first | refine blk_drewN ?_ _ | refine blk_drew ?_ | refine blk_alloc ?_ _)); exact BK243.out⟩, ⟨by repeat (first | (with_reducible first | exact HB.out | apply below_alloc | apply pw_below_drewN | apply below_drew1 | refine below_set ?_ GE242.out | refine below_set ?_ GE243.out | refine below_set ?_ GE245.out | refine below_set ?_ GE247.out) | exact HB.out)⟩⟩
                        · replace c21 := Bool.eq_false_iff.mpr c21
                          subst c21
                          have H1 : (some false) = some r := by rw [if_neg (show ¬ (false = true) by decide)] at H; exact H
                          clear H
                          have H := H1
                          clear H1
                          obtain rfl := Option.some.inj H
                          have hnb35 := NB242_243.out
                          have hnc35 := NB243_242.out
                          have ⟨hcz36_0, hcz36_1⟩ := cz2_ BK242.out
                          have ⟨hfz36_0, hfz36_1⟩ := fz2_ BK242.out
                          have p244 : 0 ≤ (x5_2 : Int) := of_decide_eq_true (by first | (with_reducible assumption) | assumption)
                          have q244 : x5_2 < (l0_1.length : Int) := of_decide_eq_true (by first | (with_reducible assumption) | assumption)
                          obtain ⟨ad244, A244_3, c244_3, e244, hx244_0, hx244_1, hx244_2, hx244_3, hl244_3, hi244_3⟩ := at_T43 HR0_1.out x5_2 p244 q244
                          cases e244
                          replace hx244_0 := (HB.out.cell (World.block_lt_of_cell? w _ hx244_0)).trans hx244_0
                          replace hx244_1 := (HB.out.cell (World.block_lt_of_cell? w _ hx244_1)).trans hx244_1
                          replace hx244_2 := (HB.out.cell (World.block_lt_of_cell? w _ hx244_2)).trans hx244_2
                          replace hx244_3 := (HB.out.cell (World.block_lt_of_cell? w _ hx244_3)).trans hx244_3
                          have HR244_3 := Aside0.mk hi244_3
                          have HC244_3 := Aside0.mk hl244_3
                          clear hi244_3 hl244_3
                          replace p244 := eq_true p244
                          replace q244 := eq_true q244
                          go_wp2_with (first | ((with_reducible refine gate_dst (N := 6) rfl ?_); (try (refine gate_guard (by rfl) ?_; dsimp only)); refine box_event ?hg (N := 6) ?hd (cs := #[.int .u32 0, .int .u32 0, .int .u32 0, .slice none 0 0]) (t := 43) ?hr ?_; (case hd => rfl); (case hg => rfl); (case hr => first | (go_simp; done) | (go_simp; rfl)); intro gb245 hg w37 hbox hb; have n0_ := Aside0.mk (bb_ BK242.out hb); have n1_ := Aside0.mk (bb_ BK243.out hb); have n2_ := Aside0.mk (bs_ hb); have n3_ := Aside0.mk (hbox); have n4_ := Aside0.mk ((ge_ hg : w.heap.size ≤ gb245)); have n5_ := Aside0.mk ((ge_ hg : w.heap.size ≤ gb245)); have n6_ := Aside0.mk ((by rw [hg]; exact Nat.ne_of_lt (blk_lt (g := gb242) (o := .cells #[.int .i64 a0_0, .slice (some ad244) l0_1.length c0_1] 24 (0, 0)) (by (with_reducible repeat (first | refine blk_drewN ?_ _ | refine blk_drew ?_ | refine blk_alloc ?_ _)); exact BK242.out)) : gb242 ≠ gb245)); have n7_ := Aside0.mk ((by rw [hg]; exact Nat.ne_of_gt (blk_lt (g := gb242) (o := .cells #[.int .i64 a0_0, .slice (some ad244) l0_1.length c0_1] 24 (0, 0)) (by (with_reducible repeat (first | refine blk_drewN ?_ _ | refine blk_drew ?_ | refine blk_alloc ?_ _)); exact BK242.out)) : gb245 ≠ gb242)); have n8_ := Aside0.mk ((by rw [hg]; exact Nat.ne_of_lt (blk_lt (g := gb243) (o := .cells #[.int .i64 a1_0, .slice A1_1 l1_1.length c1_1] 24 (0, 0)) (by (with_reducible repeat (first | refine blk_drewN ?_ _ | refine blk_drew ?_ | refine blk_alloc ?_ _)); exact BK243.out)) : gb243 ≠ gb245)); have n9_ := Aside0.mk ((by rw [hg]; exact Nat.ne_of_gt (blk_lt (g := gb243) (o := .cells #[.int .i64 a1_0, .slice A1_1 l1_1.length c1_1] 24 (0, 0)) (by (with_reducible repeat (first | refine blk_drewN ?_ _ | refine blk_drew ?_ | refine blk_alloc ?_ _)); exact BK243.out)) : gb245 ≠ gb243)); clear BK242 BK243 HB; have BK242 := n0_; have BK243 := n1_; have HB := n2_; have BK245 := n3_; have GW245 := n4_; have GE245 := n5_; have NB242_245 := n6_; have NB245_242 := n7_; have NB243_245 := n8_; have NB245_243 := n9_; clear n0_ n1_ n2_ n3_ n4_ n5_ n6_ n7_ n8_ n9_; clear hb hbox hg; have hnb38 := NB245_242.out; have hnc38 := NB242_245.out; have hnb39 := NB245_243.out; have hnc39 := NB243_245.out; have ⟨hcz40_0, hcz40_1, hcz40_2, hcz40_3⟩ := cz4_ BK245.out; have ⟨hfz40_0, hfz40_1, hfz40_2, hfz40_3⟩ := fz4_ BK245.out; have ⟨hcz41_0, hcz41_1⟩ := cz2_ BK243.out; have ⟨hfz41_0, hfz41_1⟩ := fz2_ BK243.out; have p246 : 0 ≤ (x5_2 : Int) := of_decide_eq_true (by first | (with_reducible assumption) | assumption); have q246 : x5_2 < (l1_1.length : Int) := of_decide_eq_true (by first | (with_reducible assumption) | assumption); obtain ⟨ad246, A246_3, c246_3, e246, hx246_0, hx246_1, hx246_2, hx246_3, hl246_3, hi246_3⟩ := at_T43 HR1_1.out x5_2 p246 q246; cases e246; have hn246_0 : ad246.block ≠ gb245 := Nat.ne_of_lt (Nat.lt_of_lt_of_le (by have := World.block_lt_of_cell? _ _ hx246_0; first | rwa [add_block] at this | exact this) GW245.out); have hn246_1 : ad246.block ≠ gb245 := Nat.ne_of_lt (Nat.lt_of_lt_of_le (by have := World.block_lt_of_cell? _ _ hx246_0; first | rwa [add_block] at this | exact this) GW245.out); have hn246_2 : ad246.block ≠ gb245 := Nat.ne_of_lt (Nat.lt_of_lt_of_le (by have := World.block_lt_of_cell? _ _ hx246_0; first | rwa [add_block] at this | exact this) GW245.out); have hn246_3 : ad246.block ≠ gb245 := Nat.ne_of_lt (Nat.lt_of_lt_of_le (by have := World.block_lt_of_cell? _ _ hx246_0; first | rwa [add_block] at this | exact this) GW245.out); replace hx246_0 := (HB.out.cell (World.block_lt_of_cell? w _ hx246_0)).trans hx246_0; replace hx246_1 := (HB.out.cell (World.block_lt_of_cell? w _ hx246_1)).trans hx246_1; replace hx246_2 := (HB.out.cell (World.block_lt_of_cell? w _ hx246_2)).trans hx246_2; replace hx246_3 := (HB.out.cell (World.block_lt_of_cell? w _ hx246_3)).trans hx246_3; have HR246_3 := Aside0.mk hi246_3; have HC246_3 := Aside0.mk hl246_3; clear hi246_3 hl246_3; replace hx246_0 := (cell_far (p := ⟨gb245, 0, none⟩) (by first | (rw [add_block]; exact hn246_0) | (show (Addr.add _ _).block ≠ _; rw [add_block]; exact hn246_0) | exact hn246_0) (.int .u32 ((rd_T43 l0_1 x5_2).f0))).trans hx246_0; replace hx246_1 := (cell_far (p := ⟨gb245, 0, none⟩) (by first | (rw [add_block]; exact hn246_0) | (show (Addr.add _ _).block ≠ _; rw [add_block]; exact hn246_0) | exact hn246_0) (.int .u32 ((rd_T43 l0_1 x5_2).f0))).trans hx246_1; replace hx246_2 := (cell_far (p := ⟨gb245, 0, none⟩) (by first | (rw [add_block]; exact hn246_0) | (show (Addr.add _ _).block ≠ _; rw [add_block]; exact hn246_0) | exact hn246_0) (.int .u32 ((rd_T43 l0_1 x5_2).f0))).trans hx246_2; replace hx246_3 := (cell_far (p := ⟨gb245, 0, none⟩) (by first | (rw [add_block]; exact hn246_0) | (show (Addr.add _ _).block ≠ _; rw [add_block]; exact hn246_0) | exact hn246_0) (.int .u32 ((rd_T43 l0_1 x5_2).f0))).trans hx246_3; replace hx246_0 := (cell_far (p := ⟨gb245, 1, none⟩) (by first | (rw [add_block]; exact hn246_1) | (show (Addr.add _ _).block ≠ _; rw [add_block]; exact hn246_1) | exact hn246_1) (.int .u32 ((rd_T43 l0_1 x5_2).f1))).trans hx246_0; replace hx246_1 := (cell_far (p := ⟨gb245, 1, none⟩) (by first | (rw [add_block]; exact hn246_1) | (show (Addr.add _ _).block ≠ _; rw [add_block]; exact hn246_1) | exact hn246_1) (.int .u32 ((rd_T43 l0_1 x5_2).f1))).trans hx246_1; replace hx246_2 := (cell_far (p := ⟨gb245, 1, none⟩) (by first | (rw [add_block]; exact hn246_1) | (show (Addr.add _ _).block ≠ _; rw [add_block]; exact hn246_1) | exact hn246_1) (.int .u32 ((rd_T43 l0_1 x5_2).f1))).trans hx246_2; replace hx246_3 := (cell_far (p := ⟨gb245, 1, none⟩) (by first | (rw [add_block]; exact hn246_1) | (show (Addr.add _ _).block ≠ _; rw [add_block]; exact hn246_1) | exact hn246_1) (.int .u32 ((rd_T43 l0_1 x5_2).f1))).trans hx246_3; replace hx246_0 := (cell_far (p := ⟨gb245, 2, none⟩) (by first | (rw [add_block]; exact hn246_2) | (show (Addr.add _ _).block ≠ _; rw [add_block]; exact hn246_2) | exact hn246_2) (.int .u32 ((rd_T43 l0_1 x5_2).f2))).trans hx246_0; replace hx246_1 := (cell_far (p := ⟨gb245, 2, none⟩) (by first | (rw [add_block]; exact hn246_2) | (show (Addr.add _ _).block ≠ _; rw [add_block]; exact hn246_2) | exact hn246_2) (.int .u32 ((rd_T43 l0_1 x5_2).f2))).trans hx246_1; replace hx246_2 := (cell_far (p := ⟨gb245, 2, none⟩) (by first | (rw [add_block]; exact hn246_2) | (show (Addr.add _ _).block ≠ _; rw [add_block]; exact hn246_2) | exact hn246_2) (.int .u32 ((rd_T43 l0_1 x5_2).f2))).trans hx246_2; replace hx246_3 := (cell_far (p := ⟨gb245, 2, none⟩) (by first | (rw [add_block]; exact hn246_2) | (show (Addr.add _ _).block ≠ _; rw [add_block]; exact hn246_2) | exact hn246_2) (.int .u32 ((rd_T43 l0_1 x5_2).f2))).trans hx246_3; replace hx246_0 := (cell_far (p := ⟨gb245, 3, none⟩) (by first | (rw [add_block]; exact hn246_3) | (show (Addr.add _ _).block ≠ _; rw [add_block]; exact hn246_3) | exact hn246_3) (.slice A244_3 ((rd_T43 l0_1 x5_2).f3).length c244_3)).trans hx246_0; replace hx246_1 := (cell_far (p := ⟨gb245, 3, none⟩) (by first | (rw [add_block]; exact hn246_3) | (show (Addr.add _ _).block ≠ _; rw [add_block]; exact hn246_3) | exact hn246_3) (.slice A244_3 ((rd_T43 l0_1 x5_2).f3).length c244_3)).trans hx246_1; replace hx246_2 := (cell_far (p := ⟨gb245, 3, none⟩) (by first | (rw [add_block]; exact hn246_3) | (show (Addr.add _ _).block ≠ _; rw [add_block]; exact hn246_3) | exact hn246_3) (.slice A244_3 ((rd_T43 l0_1 x5_2).f3).length c244_3)).trans hx246_2; replace hx246_3 := (cell_far (p := ⟨gb245, 3, none⟩) (by first | (rw [add_block]; exact hn246_3) | (show (Addr.add _ _).block ≠ _; rw [add_block]; exact hn246_3) | exact hn246_3) (.slice A244_3 ((rd_T43 l0_1 x5_2).f3).length c244_3)).trans hx246_3; clear hn246_0; clear hn246_1; clear hn246_2; clear hn246_3; replace p246 := eq_true p246; replace q246 := eq_true q246) | ((with_reducible refine gate_dst (N := 7) rfl ?_); (try (refine gate_guard (by rfl) ?_; dsimp only)); refine box_event ?hg (N := 7) ?hd (cs := #[.int .u32 0, .int .u32 0, .int .u32 0, .slice none 0 0]) (t := 43) ?hr ?_; (case hd => rfl); (case hg => rfl); (case hr => first | (go_simp; done) | (go_simp; rfl)); intro gb247 hg w42 hbox hb; have n2_ := Aside0.mk (blk_below (g := gb245) (o := .cells #[.int .u32 ((rd_T43 l0_1 x5_2).f0), .int .u32 ((rd_T43 l0_1 x5_2).f1), .int .u32 ((rd_T43 l0_1 x5_2).f2), .slice A244_3 ((rd_T43 l0_1 x5_2).f3).length c244_3] 43 (0, 0)) (bp4_ BK245.out) hb); have n3_ := Aside0.mk (bs_ hb); have n4_ := Aside0.mk (hbox); have n6_ := Aside0.mk ((ge_ hg : w.heap.size ≤ gb247)); have n7_ := Aside0.mk ((by rw [hg]; exact Nat.ne_of_lt (blk_lt (g := gb242) (o := .cells #[.int .i64 a0_0, .slice (some ad244) l0_1.length c0_1] 24 (0, 0)) (bf4_ BK242.out NB242_245.out)) : gb242 ≠ gb247)); have n8_ := Aside0.mk ((by rw [hg]; exact Nat.ne_of_gt (blk_lt (g := gb242) (o := .cells #[.int .i64 a0_0, .slice (some ad244) l0_1.length c0_1] 24 (0, 0)) (bf4_ BK242.out NB242_245.out)) : gb247 ≠ gb242)); have n9_ := Aside0.mk ((by rw [hg]; exact Nat.ne_of_lt (blk_lt (g := gb243) (o := .cells #[.int .i64 a1_0, .slice (some ad246) l1_1.length c1_1] 24 (0, 0)) (bf4_ BK243.out NB243_245.out)) : gb243 ≠ gb247)); have n10_ := Aside0.mk ((by rw [hg]; exact Nat.ne_of_gt (blk_lt (g := gb243) (o := .cells #[.int .i64 a1_0, .slice (some ad246) l1_1.length c1_1] 24 (0, 0)) (bf4_ BK243.out NB243_245.out)) : gb247 ≠ gb243)); have n11_ := Aside0.mk ((by rw [hg]; exact Nat.ne_of_lt (blk_lt (g := gb245) (o := .cells #[.int .u32 ((rd_T43 l0_1 x5_2).f0), .int .u32 ((rd_T43 l0_1 x5_2).f1), .int .u32 ((rd_T43 l0_1 x5_2).f2), .slice A244_3 ((rd_T43 l0_1 x5_2).f3).length c244_3] 43 (0, 0)) (bp4_ BK245.out)) : gb245 ≠ gb247)); have n12_ := Aside0.mk ((by rw [hg]; exact Nat.ne_of_gt (blk_lt (g := gb245) (o := .cells #[.int .u32 ((rd_T43 l0_1 x5_2).f0), .int .u32 ((rd_T43 l0_1 x5_2).f1), .int .u32 ((rd_T43 l0_1 x5_2).f2), .slice A244_3 ((rd_T43 l0_1 x5_2).f3).length c244_3] 43 (0, 0)) (bp4_ BK245.out)) : gb247 ≠ gb245)); clear BK242 BK243 BK245 HB; have BK245 := n2_; have HB := n3_; have BK247 := n4_; have GE247 := n6_; have NB242_247 := n7_; have NB247_242 := n8_; have NB243_247 := n9_; have NB247_243 := n10_; have NB245_247 := n11_; have NB247_245 := n12_; clear n2_ n3_ n4_ n6_ n7_ n8_ n9_ n10_ n11_ n12_; clear hb hbox hg; have hnb43 := NB247_242.out; have hnc43 := NB242_247.out; have hnb44 := NB247_243.out; have hnc44 := NB243_247.out; have hnb45 := NB247_245.out; have hnc45 := NB245_247.out; have ⟨hcz46_0, hcz46_1, hcz46_2, hcz46_3⟩ := cz4_ BK247.out; have ⟨hfz46_0, hfz46_1, hfz46_2, hfz46_3⟩ := fz4_ BK247.out; have ⟨hcz47_0, hcz47_1, hcz47_2, hcz47_3⟩ := cz4_ BK245.out; have ⟨hfz47_0, hfz47_1, hfz47_2, hfz47_3⟩ := fz4_ BK245.out) | (go_at_call 17; (with_reducible refine (chamberlainref01_Same.calls k2 _ _ ((rd_T43 l0_1 x5_2).f3) _ _ ((rd_T43 l1_1 x5_2).f3) false _ ?side1 ?side2 ?side3 ?side4 A20.out).mono ?_); (case side1 => exact Kd.C_below HR244_3.out (by repeat (first | (with_reducible first | exact HB.out | apply below_alloc | apply pw_below_drewN | apply below_drew1 | refine below_set ?_ GE242.out | refine below_set ?_ GE243.out | refine below_set ?_ GE245.out | refine below_set ?_ GE247.out) | exact HB.out))); (case side2 => exact HC244_3.out); (case side3 => exact Kd.C_below HR246_3.out (by repeat (first | (with_reducible first | exact HB.out | apply below_alloc | apply pw_below_drewN | apply below_drew1 | refine below_set ?_ GE242.out | refine below_set ?_ GE243.out | refine below_set ?_ GE245.out | refine below_set ?_ GE247.out) | exact HB.out))); (case side4 => exact HC246_3.out); rintro e w' ⟨rfl, ⟨nd, rfl⟩⟩))
                          go_ret
                          exact ⟨by first | rfl | (simp [errW_none, errW_some] <;> rfl) | (simp [*, errW_none, errW_some] <;> rfl), by repeat (first | (with_reducible first | exact HB.out | apply below_alloc | apply pw_below_drewN | apply below_drew1 | refine below_set ?_ GE242.out | refine below_set ?_ GE243.out | refine below_set ?_ GE245.out | refine below_set ?_ GE247.out) | exact HB.out)⟩
                      · rw [if_neg c19] at H
                        have c19b0 : (((rd_T43 l0_1 x5_2).f2) == ((rd_T43 l1_1 x5_2).f2)) = false := beq_eq_false_iff_ne.mpr c19
                        have c19b1 : (((rd_T43 l0_1 x5_2).f2) != ((rd_T43 l1_1 x5_2).f2)) = true := bne_iff_ne.mpr c19
                        obtain rfl := Option.some.inj H
                        have hnb48 := NB242_243.out
                        have hnc48 := NB243_242.out
                        have ⟨hcz49_0, hcz49_1⟩ := cz2_ BK242.out
                        have ⟨hfz49_0, hfz49_1⟩ := fz2_ BK242.out
                        have p244 : 0 ≤ (x5_2 : Int) := of_decide_eq_true (by first | (with_reducible assumption) | assumption)
                        have q244 : x5_2 < (l0_1.length : Int) := of_decide_eq_true (by first | (with_reducible assumption) | assumption)
                        obtain ⟨ad244, A244_3, c244_3, e244, hx244_0, hx244_1, hx244_2, hx244_3, hl244_3, hi244_3⟩ := at_T43 HR0_1.out x5_2 p244 q244
                        cases e244
                        replace hx244_0 := (HB.out.cell (World.block_lt_of_cell? w _ hx244_0)).trans hx244_0
                        replace hx244_1 := (HB.out.cell (World.block_lt_of_cell? w _ hx244_1)).trans hx244_1
                        replace hx244_2 := (HB.out.cell (World.block_lt_of_cell? w _ hx244_2)).trans hx244_2
                        replace hx244_3 := (HB.out.cell (World.block_lt_of_cell? w _ hx244_3)).trans hx244_3
                        have HR244_3 := Aside0.mk hi244_3
                        have HC244_3 := Aside0.mk hl244_3
                        clear hi244_3 hl244_3
                        replace p244 := eq_true p244
                        replace q244 := eq_true q244
                        go_wp2_with (first | ((with_reducible refine gate_dst (N := 6) rfl ?_); (try (refine gate_guard (by rfl) ?_; dsimp only)); refine box_event ?hg (N := 6) ?hd (cs := #[.int .u32 0, .int .u32 0, .int .u32 0, .slice none 0 0]) (t := 43) ?hr ?_; (case hd => rfl); (case hg => rfl); (case hr => first | (go_simp; done) | (go_simp; rfl)); intro gb245 hg w50 hbox hb; have n0_ := Aside0.mk (bb_ BK242.out hb); have n1_ := Aside0.mk (bb_ BK243.out hb); have n2_ := Aside0.mk (bs_ hb); have n3_ := Aside0.mk (hbox); have n4_ := Aside0.mk ((ge_ hg : w.heap.size ≤ gb245)); have n5_ := Aside0.mk ((ge_ hg : w.heap.size ≤ gb245)); have n6_ := Aside0.mk ((by rw [hg]; exact Nat.ne_of_lt (blk_lt (g := gb242) (o := .cells #[.int .i64 a0_0, .slice (some ad244) l0_1.length c0_1] 24 (0, 0)) (by (with_reducible repeat (first | refine blk_drewN ?_ _ | refine blk_drew ?_ | refine blk_alloc ?_ _)); exact BK242.out)) : gb242 ≠ gb245)); have n7_ := Aside0.mk ((by rw [hg]; exact Nat.ne_of_gt (blk_lt (g := gb242) (o := .cells #[.int .i64 a0_0, .slice (some ad244) l0_1.length c0_1] 24 (0, 0)) (by (with_reducible repeat (first | refine blk_drewN ?_ _ | refine blk_drew ?_ | refine blk_alloc ?_ _)); exact BK242.out)) : gb245 ≠ gb242)); have n8_ := Aside0.mk ((by rw [hg]; exact Nat.ne_of_lt (blk_lt (g := gb243) (o := .cells #[.int .i64 a1_0, .slice A1_1 l1_1.length c1_1] 24 (0, 0)) (by (with_reducible repeat (first | refine blk_drewN ?_ _ | refine blk_drew ?_ | refine blk_alloc ?_ _)); exact BK243.out)) : gb243 ≠ gb245)); have n9_ := Aside0.mk ((by rw [hg]; exact Nat.ne_of_gt (blk_lt (g := gb243) (o := .cells #[.int .i64 a1_0, .slice A1_1 l1_1.length c1_1] 24 (0, 0)) (by (with_reducible repeat (first | refine blk_drewN ?_ _ | refine blk_drew ?_ | refine blk_alloc ?_ _)); exact BK243.out)) : gb245 ≠ gb243)); clear BK242 BK243 HB; have BK242 := n0_; have BK243 := n1_; have HB := n2_; have BK245 := n3_; have GW245 := n4_; have GE245 := n5_; have NB242_245 := n6_; have NB245_242 := n7_; have NB243_245 := n8_; have NB245_243 := n9_; clear n0_ n1_ n2_ n3_ n4_ n5_ n6_ n7_ n8_ n9_; clear hb hbox hg; have hnb51 := NB245_242.out; have hnc51 := NB242_245.out; have hnb52 := NB245_243.out; have hnc52 := NB243_245.out; have ⟨hcz53_0, hcz53_1, hcz53_2, hcz53_3⟩ := cz4_ BK245.out; have ⟨hfz53_0, hfz53_1, hfz53_2, hfz53_3⟩ := fz4_ BK245.out; have ⟨hcz54_0, hcz54_1⟩ := cz2_ BK243.out; have ⟨hfz54_0, hfz54_1⟩ := fz2_ BK243.out; have p246 : 0 ≤ (x5_2 : Int) := of_decide_eq_true (by first | (with_reducible assumption) | assumption); have q246 : x5_2 < (l1_1.length : Int) := of_decide_eq_true (by first | (with_reducible assumption) | assumption); obtain ⟨ad246, A246_3, c246_3, e246, hx246_0, hx246_1, hx246_2, hx246_3, hl246_3, hi246_3⟩ := at_T43 HR1_1.out x5_2 p246 q246; cases e246; have hn246_0 : ad246.block ≠ gb245 := Nat.ne_of_lt (Nat.lt_of_lt_of_le (by have := World.block_lt_of_cell? _ _ hx246_0; first | rwa [add_block] at this | exact this) GW245.out); have hn246_1 : ad246.block ≠ gb245 := Nat.ne_of_lt (Nat.lt_of_lt_of_le (by have := World.block_lt_of_cell? _ _ hx246_0; first | rwa [add_block] at this | exact this) GW245.out); have hn246_2 : ad246.block ≠ gb245 := Nat.ne_of_lt (Nat.lt_of_lt_of_le (by have := World.block_lt_of_cell? _ _ hx246_0; first | rwa [add_block] at this | exact this) GW245.out); have hn246_3 : ad246.block ≠ gb245 := Nat.ne_of_lt (Nat.lt_of_lt_of_le (by have := World.block_lt_of_cell? _ _ hx246_0; first | rwa [add_block] at this | exact this) GW245.out); replace hx246_0 := (HB.out.cell (World.block_lt_of_cell? w _ hx246_0)).trans hx246_0; replace hx246_1 := (HB.out.cell (World.block_lt_of_cell? w _ hx246_1)).trans hx246_1; replace hx246_2 := (HB.out.cell (World.block_lt_of_cell? w _ hx246_2)).trans hx246_2; replace hx246_3 := (HB.out.cell (World.block_lt_of_cell? w _ hx246_3)).trans hx246_3; have HR246_3 := Aside0.mk hi246_3; have HC246_3 := Aside0.mk hl246_3; clear hi246_3 hl246_3; replace hx246_0 := (cell_far (p := ⟨gb245, 0, none⟩) (by first | (rw [add_block]; exact hn246_0) | (show (Addr.add _ _).block ≠ _; rw [add_block]; exact hn246_0) | exact hn246_0) (.int .u32 ((rd_T43 l0_1 x5_2).f0))).trans hx246_0; replace hx246_1 := (cell_far (p := ⟨gb245, 0, none⟩) (by first | (rw [add_block]; exact hn246_0) | (show (Addr.add _ _).block ≠ _; rw [add_block]; exact hn246_0) | exact hn246_0) (.int .u32 ((rd_T43 l0_1 x5_2).f0))).trans hx246_1; replace hx246_2 := (cell_far (p := ⟨gb245, 0, none⟩) (by first | (rw [add_block]; exact hn246_0) | (show (Addr.add _ _).block ≠ _; rw [add_block]; exact hn246_0) | exact hn246_0) (.int .u32 ((rd_T43 l0_1 x5_2).f0))).trans hx246_2; replace hx246_3 := (cell_far (p := ⟨gb245, 0, none⟩) (by first | (rw [add_block]; exact hn246_0) | (show (Addr.add _ _).block ≠ _; rw [add_block]; exact hn246_0) | exact hn246_0) (.int .u32 ((rd_T43 l0_1 x5_2).f0))).trans hx246_3; replace hx246_0 := (cell_far (p := ⟨gb245, 1, none⟩) (by first | (rw [add_block]; exact hn246_1) | (show (Addr.add _ _).block ≠ _; rw [add_block]; exact hn246_1) | exact hn246_1) (.int .u32 ((rd_T43 l0_1 x5_2).f1))).trans hx246_0; replace hx246_1 := (cell_far (p := ⟨gb245, 1, none⟩) (by first | (rw [add_block]; exact hn246_1) | (show (Addr.add _ _).block ≠ _; rw [add_block]; exact hn246_1) | exact hn246_1) (.int .u32 ((rd_T43 l0_1 x5_2).f1))).trans hx246_1; replace hx246_2 := (cell_far (p := ⟨gb245, 1, none⟩) (by first | (rw [add_block]; exact hn246_1) | (show (Addr.add _ _).block ≠ _; rw [add_block]; exact hn246_1) | exact hn246_1) (.int .u32 ((rd_T43 l0_1 x5_2).f1))).trans hx246_2; replace hx246_3 := (cell_far (p := ⟨gb245, 1, none⟩) (by first | (rw [add_block]; exact hn246_1) | (show (Addr.add _ _).block ≠ _; rw [add_block]; exact hn246_1) | exact hn246_1) (.int .u32 ((rd_T43 l0_1 x5_2).f1))).trans hx246_3; replace hx246_0 := (cell_far (p := ⟨gb245, 2, none⟩) (by first | (rw [add_block]; exact hn246_2) | (show (Addr.add _ _).block ≠ _; rw [add_block]; exact hn246_2) | exact hn246_2) (.int .u32 ((rd_T43 l0_1 x5_2).f2))).trans hx246_0; replace hx246_1 := (cell_far (p := ⟨gb245, 2, none⟩) (by first | (rw [add_block]; exact hn246_2) | (show (Addr.add _ _).block ≠ _; rw [add_block]; exact hn246_2) | exact hn246_2) (.int .u32 ((rd_T43 l0_1 x5_2).f2))).trans hx246_1; replace hx246_2 := (cell_far (p := ⟨gb245, 2, none⟩) (by first | (rw [add_block]; exact hn246_2) | (show (Addr.add _ _).block ≠ _; rw [add_block]; exact hn246_2) | exact hn246_2) (.int .u32 ((rd_T43 l0_1 x5_2).f2))).trans hx246_2; replace hx246_3 := (cell_far (p := ⟨gb245, 2, none⟩) (by first | (rw [add_block]; exact hn246_2) | (show (Addr.add _ _).block ≠ _; rw [add_block]; exact hn246_2) | exact hn246_2) (.int .u32 ((rd_T43 l0_1 x5_2).f2))).trans hx246_3; replace hx246_0 := (cell_far (p := ⟨gb245, 3, none⟩) (by first | (rw [add_block]; exact hn246_3) | (show (Addr.add _ _).block ≠ _; rw [add_block]; exact hn246_3) | exact hn246_3) (.slice A244_3 ((rd_T43 l0_1 x5_2).f3).length c244_3)).trans hx246_0; replace hx246_1 := (cell_far (p := ⟨gb245, 3, none⟩) (by first | (rw [add_block]; exact hn246_3) | (show (Addr.add _ _).block ≠ _; rw [add_block]; exact hn246_3) | exact hn246_3) (.slice A244_3 ((rd_T43 l0_1 x5_2).f3).length c244_3)).trans hx246_1; replace hx246_2 := (cell_far (p := ⟨gb245, 3, none⟩) (by first | (rw [add_block]; exact hn246_3) | (show (Addr.add _ _).block ≠ _; rw [add_block]; exact hn246_3) | exact hn246_3) (.slice A244_3 ((rd_T43 l0_1 x5_2).f3).length c244_3)).trans hx246_2; replace hx246_3 := (cell_far (p := ⟨gb245, 3, none⟩) (by first | (rw [add_block]; exact hn246_3) | (show (Addr.add _ _).block ≠ _; rw [add_block]; exact hn246_3) | exact hn246_3) (.slice A244_3 ((rd_T43 l0_1 x5_2).f3).length c244_3)).trans hx246_3; clear hn246_0; clear hn246_1; clear hn246_2; clear hn246_3; replace p246 := eq_true p246; replace q246 := eq_true q246) | ((with_reducible refine gate_dst (N := 7) rfl ?_); (try (refine gate_guard (by rfl) ?_; dsimp only)); refine box_event ?hg (N := 7) ?hd (cs := #[.int .u32 0, .int .u32 0, .int .u32 0, .slice none 0 0]) (t := 43) ?hr ?_; (case hd => rfl); (case hg => rfl); (case hr => first | (go_simp; done) | (go_simp; rfl)); intro gb247 hg w55 hbox hb; have n2_ := Aside0.mk (blk_below (g := gb245) (o := .cells #[.int .u32 ((rd_T43 l0_1 x5_2).f0), .int .u32 ((rd_T43 l0_1 x5_2).f1), .int .u32 ((rd_T43 l0_1 x5_2).f2), .slice A244_3 ((rd_T43 l0_1 x5_2).f3).length c244_3] 43 (0, 0)) (bp4_ BK245.out) hb); have n3_ := Aside0.mk (bs_ hb); have n4_ := Aside0.mk (hbox); have n6_ := Aside0.mk ((ge_ hg : w.heap.size ≤ gb247)); have n7_ := Aside0.mk ((by rw [hg]; exact Nat.ne_of_lt (blk_lt (g := gb242) (o := .cells #[.int .i64 a0_0, .slice (some ad244) l0_1.length c0_1] 24 (0, 0)) (bf4_ BK242.out NB242_245.out)) : gb242 ≠ gb247)); have n8_ := Aside0.mk ((by rw [hg]; exact Nat.ne_of_gt (blk_lt (g := gb242) (o := .cells #[.int .i64 a0_0, .slice (some ad244) l0_1.length c0_1] 24 (0, 0)) (bf4_ BK242.out NB242_245.out)) : gb247 ≠ gb242)); have n9_ := Aside0.mk ((by rw [hg]; exact Nat.ne_of_lt (blk_lt (g := gb243) (o := .cells #[.int .i64 a1_0, .slice (some ad246) l1_1.length c1_1] 24 (0, 0)) (bf4_ BK243.out NB243_245.out)) : gb243 ≠ gb247)); have n10_ := Aside0.mk ((by rw [hg]; exact Nat.ne_of_gt (blk_lt (g := gb243) (o := .cells #[.int .i64 a1_0, .slice (some ad246) l1_1.length c1_1] 24 (0, 0)) (bf4_ BK243.out NB243_245.out)) : gb247 ≠ gb243)); have n11_ := Aside0.mk ((by rw [hg]; exact Nat.ne_of_lt (blk_lt (g := gb245) (o := .cells #[.int .u32 ((rd_T43 l0_1 x5_2).f0), .int .u32 ((rd_T43 l0_1 x5_2).f1), .int .u32 ((rd_T43 l0_1 x5_2).f2), .slice A244_3 ((rd_T43 l0_1 x5_2).f3).length c244_3] 43 (0, 0)) (bp4_ BK245.out)) : gb245 ≠ gb247)); have n12_ := Aside0.mk ((by rw [hg]; exact Nat.ne_of_gt (blk_lt (g := gb245) (o := .cells #[.int .u32 ((rd_T43 l0_1 x5_2).f0), .int .u32 ((rd_T43 l0_1 x5_2).f1), .int .u32 ((rd_T43 l0_1 x5_2).f2), .slice A244_3 ((rd_T43 l0_1 x5_2).f3).length c244_3] 43 (0, 0)) (bp4_ BK245.out)) : gb247 ≠ gb245)); clear BK242 BK243 BK245 HB; have BK245 := n2_; have HB := n3_; have BK247 := n4_; have GE247 := n6_; have NB242_247 := n7_; have NB247_242 := n8_; have NB243_247 := n9_; have NB247_243 := n10_; have NB245_247 := n11_; have NB247_245 := n12_; clear n2_ n3_ n4_ n6_ n7_ n8_ n9_ n10_ n11_ n12_; clear hb hbox hg; have hnb56 := NB247_242.out; have hnc56 := NB242_247.out; have hnb57 := NB247_243.out; have hnc57 := NB243_247.out; have hnb58 := NB247_245.out; have hnc58 := NB245_247.out; have ⟨hcz59_0, hcz59_1, hcz59_2, hcz59_3⟩ := cz4_ BK247.out; have ⟨hfz59_0, hfz59_1, hfz59_2, hfz59_3⟩ := fz4_ BK247.out; have ⟨hcz60_0, hcz60_1, hcz60_2, hcz60_3⟩ := cz4_ BK245.out; have ⟨hfz60_0, hfz60_1, hfz60_2, hfz60_3⟩ := fz4_ BK245.out))
                        go_ret
                        exact ⟨by first | rfl | (simp [errW_none, errW_some] <;> rfl) | (simp [*, errW_none, errW_some] <;> rfl), by repeat (first | (with_reducible first | exact HB.out | apply below_alloc | apply pw_below_drewN | apply below_drew1 | refine below_set ?_ GE242.out | refine below_set ?_ GE243.out | refine below_set ?_ GE245.out | refine below_set ?_ GE247.out) | exact HB.out)⟩
                    · rw [if_neg c18] at H
                      have c18b0 : (((rd_T43 l0_1 x5_2).f1) == ((rd_T43 l1_1 x5_2).f1)) = false := beq_eq_false_iff_ne.mpr c18
                      have c18b1 : (((rd_T43 l0_1 x5_2).f1) != ((rd_T43 l1_1 x5_2).f1)) = true := bne_iff_ne.mpr c18
                      obtain rfl := Option.some.inj H
                      have hnb61 := NB242_243.out
                      have hnc61 := NB243_242.out
                      have ⟨hcz62_0, hcz62_1⟩ := cz2_ BK242.out
                      have ⟨hfz62_0, hfz62_1⟩ := fz2_ BK242.out
                      have p244 : 0 ≤ (x5_2 : Int) := of_decide_eq_true (by first | (with_reducible assumption) | assumption)
                      have q244 : x5_2 < (l0_1.length : Int) := of_decide_eq_true (by first | (with_reducible assumption) | assumption)
                      obtain ⟨ad244, A244_3, c244_3, e244, hx244_0, hx244_1, hx244_2, hx244_3, hl244_3, hi244_3⟩ := at_T43 HR0_1.out x5_2 p244 q244
                      cases e244
                      replace hx244_0 := (HB.out.cell (World.block_lt_of_cell? w _ hx244_0)).trans hx244_0
                      replace hx244_1 := (HB.out.cell (World.block_lt_of_cell? w _ hx244_1)).trans hx244_1
                      replace hx244_2 := (HB.out.cell (World.block_lt_of_cell? w _ hx244_2)).trans hx244_2
                      replace hx244_3 := (HB.out.cell (World.block_lt_of_cell? w _ hx244_3)).trans hx244_3
                      have HR244_3 := Aside0.mk hi244_3
                      have HC244_3 := Aside0.mk hl244_3
                      clear hi244_3 hl244_3
                      replace p244 := eq_true p244
                      replace q244 := eq_true q244
                      go_wp2_with (first | ((with_reducible refine gate_dst (N := 6) rfl ?_); (try (refine gate_guard (by rfl) ?_; dsimp only)); refine box_event ?hg (N := 6) ?hd (cs := #[.int .u32 0, .int .u32 0, .int .u32 0, .slice none 0 0]) (t := 43) ?hr ?_; (case hd => rfl); (case hg => rfl); (case hr => first | (go_simp; done) | (go_simp; rfl)); intro gb245 hg w63 hbox hb; have n0_ := Aside0.mk (bb_ BK242.out hb); have n1_ := Aside0.mk (bb_ BK243.out hb); have n2_ := Aside0.mk (bs_ hb); have n3_ := Aside0.mk (hbox); have n4_ := Aside0.mk ((ge_ hg : w.heap.size ≤ gb245)); have n5_ := Aside0.mk ((ge_ hg : w.heap.size ≤ gb245)); have n6_ := Aside0.mk ((by rw [hg]; exact Nat.ne_of_lt (blk_lt (g := gb242) (o := .cells #[.int .i64 a0_0, .slice (some ad244) l0_1.length c0_1] 24 (0, 0)) (by (with_reducible repeat (first | refine blk_drewN ?_ _ | refine blk_drew ?_ | refine blk_alloc ?_ _)); exact BK242.out)) : gb242 ≠ gb245)); have n7_ := Aside0.mk ((by rw [hg]; exact Nat.ne_of_gt (blk_lt (g := gb242) (o := .cells #[.int .i64 a0_0, .slice (some ad244) l0_1.length c0_1] 24 (0, 0)) (by (with_reducible repeat (first | refine blk_drewN ?_ _ | refine blk_drew ?_ | refine blk_alloc ?_ _)); exact BK242.out)) : gb245 ≠ gb242)); have n8_ := Aside0.mk ((by rw [hg]; exact Nat.ne_of_lt (blk_lt (g := gb243) (o := .cells #[.int .i64 a1_0, .slice A1_1 l1_1.length c1_1] 24 (0, 0)) (by (with_reducible repeat (first | refine blk_drewN ?_ _ | refine blk_drew ?_ | refine blk_alloc ?_ _)); exact BK243.out)) : gb243 ≠ gb245)); have n9_ := Aside0.mk ((by rw [hg]; exact Nat.ne_of_gt (blk_lt (g := gb243) (o := .cells #[.int .i64 a1_0, .slice A1_1 l1_1.length c1_1] 24 (0, 0)) (by (with_reducible repeat (first | refine blk_drewN ?_ _ | refine blk_drew ?_ | refine blk_alloc ?_ _)); exact BK243.out)) : gb245 ≠ gb243)); clear BK242 BK243 HB; have BK242 := n0_; have BK243 := n1_; have HB := n2_; have BK245 := n3_; have GW245 := n4_; have GE245 := n5_; have NB242_245 := n6_; have NB245_242 := n7_; have NB243_245 := n8_; have NB245_243 := n9_; clear n0_ n1_ n2_ n3_ n4_ n5_ n6_ n7_ n8_ n9_; clear hb hbox hg; have hnb64 := NB245_242.out; have hnc64 := NB242_245.out; have hnb65 := NB245_243.out; have hnc65 := NB243_245.out; have ⟨hcz66_0, hcz66_1, hcz66_2, hcz66_3⟩ := cz4_ BK245.out; have ⟨hfz66_0, hfz66_1, hfz66_2, hfz66_3⟩ := fz4_ BK245.out; have ⟨hcz67_0, hcz67_1⟩ := cz2_ BK243.out; have ⟨hfz67_0, hfz67_1⟩ := fz2_ BK243.out; have p246 : 0 ≤ (x5_2 : Int) := of_decide_eq_true (by first | (with_reducible assumption) | assumption); have q246 : x5_2 < (l1_1.length : Int) := of_decide_eq_true (by first | (with_reducible assumption) | assumption); obtain ⟨ad246, A246_3, c246_3, e246, hx246_0, hx246_1, hx246_2, hx246_3, hl246_3, hi246_3⟩ := at_T43 HR1_1.out x5_2 p246 q246; cases e246; have hn246_0 : ad246.block ≠ gb245 := Nat.ne_of_lt (Nat.lt_of_lt_of_le (by have := World.block_lt_of_cell? _ _ hx246_0; first | rwa [add_block] at this | exact this) GW245.out); have hn246_1 : ad246.block ≠ gb245 := Nat.ne_of_lt (Nat.lt_of_lt_of_le (by have := World.block_lt_of_cell? _ _ hx246_0; first | rwa [add_block] at this | exact this) GW245.out); have hn246_2 : ad246.block ≠ gb245 := Nat.ne_of_lt (Nat.lt_of_lt_of_le (by have := World.block_lt_of_cell? _ _ hx246_0; first | rwa [add_block] at this | exact this) GW245.out); have hn246_3 : ad246.block ≠ gb245 := Nat.ne_of_lt (Nat.lt_of_lt_of_le (by have := World.block_lt_of_cell? _ _ hx246_0; first | rwa [add_block] at this | exact this) GW245.out); replace hx246_0 := (HB.out.cell (World.block_lt_of_cell? w _ hx246_0)).trans hx246_0; replace hx246_1 := (HB.out.cell (World.block_lt_of_cell? w _ hx246_1)).trans hx246_1; replace hx246_2 := (HB.out.cell (World.block_lt_of_cell? w _ hx246_2)).trans hx246_2; replace hx246_3 := (HB.out.cell (World.block_lt_of_cell? w _ hx246_3)).trans hx246_3; have HR246_3 := Aside0.mk hi246_3; have HC246_3 := Aside0.mk hl246_3; clear hi246_3 hl246_3; replace hx246_0 := (cell_far (p := ⟨gb245, 0, none⟩) (by first | (rw [add_block]; exact hn246_0) | (show (Addr.add _ _).block ≠ _; rw [add_block]; exact hn246_0) | exact hn246_0) (.int .u32 ((rd_T43 l0_1 x5_2).f0))).trans hx246_0; replace hx246_1 := (cell_far (p := ⟨gb245, 0, none⟩) (by first | (rw [add_block]; exact hn246_0) | (show (Addr.add _ _).block ≠ _; rw [add_block]; exact hn246_0) | exact hn246_0) (.int .u32 ((rd_T43 l0_1 x5_2).f0))).trans hx246_1; replace hx246_2 := (cell_far (p := ⟨gb245, 0, none⟩) (by first | (rw [add_block]; exact hn246_0) | (show (Addr.add _ _).block ≠ _; rw [add_block]; exact hn246_0) | exact hn246_0) (.int .u32 ((rd_T43 l0_1 x5_2).f0))).trans hx246_2; replace hx246_3 := (cell_far (p := ⟨gb245, 0, none⟩) (by first | (rw [add_block]; exact hn246_0) | (show (Addr.add _ _).block ≠ _; rw [add_block]; exact hn246_0) | exact hn246_0) (.int .u32 ((rd_T43 l0_1 x5_2).f0))).trans hx246_3; replace hx246_0 := (cell_far (p := ⟨gb245, 1, none⟩) (by first | (rw [add_block]; exact hn246_1) | (show (Addr.add _ _).block ≠ _; rw [add_block]; exact hn246_1) | exact hn246_1) (.int .u32 ((rd_T43 l0_1 x5_2).f1))).trans hx246_0; replace hx246_1 := (cell_far (p := ⟨gb245, 1, none⟩) (by first | (rw [add_block]; exact hn246_1) | (show (Addr.add _ _).block ≠ _; rw [add_block]; exact hn246_1) | exact hn246_1) (.int .u32 ((rd_T43 l0_1 x5_2).f1))).trans hx246_1; replace hx246_2 := (cell_far (p := ⟨gb245, 1, none⟩) (by first | (rw [add_block]; exact hn246_1) | (show (Addr.add _ _).block ≠ _; rw [add_block]; exact hn246_1) | exact hn246_1) (.int .u32 ((rd_T43 l0_1 x5_2).f1))).trans hx246_2; replace hx246_3 := (cell_far (p := ⟨gb245, 1, none⟩) (by first | (rw [add_block]; exact hn246_1) | (show (Addr.add _ _).block ≠ _; rw [add_block]; exact hn246_1) | exact hn246_1) (.int .u32 ((rd_T43 l0_1 x5_2).f1))).trans hx246_3; replace hx246_0 := (cell_far (p := ⟨gb245, 2, none⟩) (by first | (rw [add_block]; exact hn246_2) | (show (Addr.add _ _).block ≠ _; rw [add_block]; exact hn246_2) | exact hn246_2) (.int .u32 ((rd_T43 l0_1 x5_2).f2))).trans hx246_0; replace hx246_1 := (cell_far (p := ⟨gb245, 2, none⟩) (by first | (rw [add_block]; exact hn246_2) | (show (Addr.add _ _).block ≠ _; rw [add_block]; exact hn246_2) | exact hn246_2) (.int .u32 ((rd_T43 l0_1 x5_2).f2))).trans hx246_1; replace hx246_2 := (cell_far (p := ⟨gb245, 2, none⟩) (by first | (rw [add_block]; exact hn246_2) | (show (Addr.add _ _).block ≠ _; rw [add_block]; exact hn246_2) | exact hn246_2) (.int .u32 ((rd_T43 l0_1 x5_2).f2))).trans hx246_2; replace hx246_3 := (cell_far (p := ⟨gb245, 2, none⟩) (by first | (rw [add_block]; exact hn246_2) | (show (Addr.add _ _).block ≠ _; rw [add_block]; exact hn246_2) | exact hn246_2) (.int .u32 ((rd_T43 l0_1 x5_2).f2))).trans hx246_3; replace hx246_0 := (cell_far (p := ⟨gb245, 3, none⟩) (by first | (rw [add_block]; exact hn246_3) | (show (Addr.add _ _).block ≠ _; rw [add_block]; exact hn246_3) | exact hn246_3) (.slice A244_3 ((rd_T43 l0_1 x5_2).f3).length c244_3)).trans hx246_0; replace hx246_1 := (cell_far (p := ⟨gb245, 3, none⟩) (by first | (rw [add_block]; exact hn246_3) | (show (Addr.add _ _).block ≠ _; rw [add_block]; exact hn246_3) | exact hn246_3) (.slice A244_3 ((rd_T43 l0_1 x5_2).f3).length c244_3)).trans hx246_1; replace hx246_2 := (cell_far (p := ⟨gb245, 3, none⟩) (by first | (rw [add_block]; exact hn246_3) | (show (Addr.add _ _).block ≠ _; rw [add_block]; exact hn246_3) | exact hn246_3) (.slice A244_3 ((rd_T43 l0_1 x5_2).f3).length c244_3)).trans hx246_2; replace hx246_3 := (cell_far (p := ⟨gb245, 3, none⟩) (by first | (rw [add_block]; exact hn246_3) | (show (Addr.add _ _).block ≠ _; rw [add_block]; exact hn246_3) | exact hn246_3) (.slice A244_3 ((rd_T43 l0_1 x5_2).f3).length c244_3)).trans hx246_3; clear hn246_0; clear hn246_1; clear hn246_2; clear hn246_3; replace p246 := eq_true p246; replace q246 := eq_true q246) | ((with_reducible refine gate_dst (N := 7) rfl ?_); (try (refine gate_guard (by rfl) ?_; dsimp only)); refine box_event ?hg (N := 7) ?hd (cs := #[.int .u32 0, .int .u32 0, .int .u32 0, .slice none 0 0]) (t := 43) ?hr ?_; (case hd => rfl); (case hg => rfl); (case hr => first | (go_simp; done) | (go_simp; rfl)); intro gb247 hg w68 hbox hb; have n2_ := Aside0.mk (blk_below (g := gb245) (o := .cells #[.int .u32 ((rd_T43 l0_1 x5_2).f0), .int .u32 ((rd_T43 l0_1 x5_2).f1), .int .u32 ((rd_T43 l0_1 x5_2).f2), .slice A244_3 ((rd_T43 l0_1 x5_2).f3).length c244_3] 43 (0, 0)) (bp4_ BK245.out) hb); have n3_ := Aside0.mk (bs_ hb); have n4_ := Aside0.mk (hbox); have n6_ := Aside0.mk ((ge_ hg : w.heap.size ≤ gb247)); have n7_ := Aside0.mk ((by rw [hg]; exact Nat.ne_of_lt (blk_lt (g := gb242) (o := .cells #[.int .i64 a0_0, .slice (some ad244) l0_1.length c0_1] 24 (0, 0)) (bf4_ BK242.out NB242_245.out)) : gb242 ≠ gb247)); have n8_ := Aside0.mk ((by rw [hg]; exact Nat.ne_of_gt (blk_lt (g := gb242) (o := .cells #[.int .i64 a0_0, .slice (some ad244) l0_1.length c0_1] 24 (0, 0)) (bf4_ BK242.out NB242_245.out)) : gb247 ≠ gb242)); have n9_ := Aside0.mk ((by rw [hg]; exact Nat.ne_of_lt (blk_lt (g := gb243) (o := .cells #[.int .i64 a1_0, .slice (some ad246) l1_1.length c1_1] 24 (0, 0)) (bf4_ BK243.out NB243_245.out)) : gb243 ≠ gb247)); have n10_ := Aside0.mk ((by rw [hg]; exact Nat.ne_of_gt (blk_lt (g := gb243) (o := .cells #[.int .i64 a1_0, .slice (some ad246) l1_1.length c1_1] 24 (0, 0)) (bf4_ BK243.out NB243_245.out)) : gb247 ≠ gb243)); have n11_ := Aside0.mk ((by rw [hg]; exact Nat.ne_of_lt (blk_lt (g := gb245) (o := .cells #[.int .u32 ((rd_T43 l0_1 x5_2).f0), .int .u32 ((rd_T43 l0_1 x5_2).f1), .int .u32 ((rd_T43 l0_1 x5_2).f2), .slice A244_3 ((rd_T43 l0_1 x5_2).f3).length c244_3] 43 (0, 0)) (bp4_ BK245.out)) : gb245 ≠ gb247)); have n12_ := Aside0.mk ((by rw [hg]; exact Nat.ne_of_gt (blk_lt (g := gb245) (o := .cells #[.int .u32 ((rd_T43 l0_1 x5_2).f0), .int .u32 ((rd_T43 l0_1 x5_2).f1), .int .u32 ((rd_T43 l0_1 x5_2).f2), .slice A244_3 ((rd_T43 l0_1 x5_2).f3).length c244_3] 43 (0, 0)) (bp4_ BK245.out)) : gb247 ≠ gb245)); clear BK242 BK243 BK245 HB; have BK245 := n2_; have HB := n3_; have BK247 := n4_; have GE247 := n6_; have NB242_247 := n7_; have NB247_242 := n8_; have NB243_247 := n9_; have NB247_243 := n10_; have NB245_247 := n11_; have NB247_245 := n12_; clear n2_ n3_ n4_ n6_ n7_ n8_ n9_ n10_ n11_ n12_; clear hb hbox hg; have hnb69 := NB247_242.out; have hnc69 := NB242_247.out; have hnb70 := NB247_243.out; have hnc70 := NB243_247.out; have hnb71 := NB247_245.out; have hnc71 := NB245_247.out; have ⟨hcz72_0, hcz72_1, hcz72_2, hcz72_3⟩ := cz4_ BK247.out; have ⟨hfz72_0, hfz72_1, hfz72_2, hfz72_3⟩ := fz4_ BK247.out; have ⟨hcz73_0, hcz73_1, hcz73_2, hcz73_3⟩ := cz4_ BK245.out; have ⟨hfz73_0, hfz73_1, hfz73_2, hfz73_3⟩ := fz4_ BK245.out))
                      go_ret
                      exact ⟨by first | rfl | (simp [errW_none, errW_some] <;> rfl) | (simp [*, errW_none, errW_some] <;> rfl), by repeat (first | (with_reducible first | exact HB.out | apply below_alloc | apply pw_below_drewN | apply below_drew1 | refine below_set ?_ GE242.out | refine below_set ?_ GE243.out | refine below_set ?_ GE245.out | refine below_set ?_ GE247.out) | exact HB.out)⟩
                  · rw [if_neg c17] at H
                    have c17b0 : (((rd_T43 l0_1 x5_2).f0) == ((rd_T43 l1_1 x5_2).f0)) = false := beq_eq_false_iff_ne.mpr c17
                    have c17b1 : (((rd_T43 l0_1 x5_2).f0) != ((rd_T43 l1_1 x5_2).f0)) = true := bne_iff_ne.mpr c17
                    obtain rfl := Option.some.inj H
                    have hnb74 := NB242_243.out
                    have hnc74 := NB243_242.out
                    have ⟨hcz75_0, hcz75_1⟩ := cz2_ BK242.out
                    have ⟨hfz75_0, hfz75_1⟩ := fz2_ BK242.out
                    have p244 : 0 ≤ (x5_2 : Int) := of_decide_eq_true (by first | (with_reducible assumption) | assumption)
                    have q244 : x5_2 < (l0_1.length : Int) := of_decide_eq_true (by first | (with_reducible assumption) | assumption)
                    obtain ⟨ad244, A244_3, c244_3, e244, hx244_0, hx244_1, hx244_2, hx244_3, hl244_3, hi244_3⟩ := at_T43 HR0_1.out x5_2 p244 q244
                    cases e244
                    replace hx244_0 := (HB.out.cell (World.block_lt_of_cell? w _ hx244_0)).trans hx244_0
                    replace hx244_1 := (HB.out.cell (World.block_lt_of_cell? w _ hx244_1)).trans hx244_1
                    replace hx244_2 := (HB.out.cell (World.block_lt_of_cell? w _ hx244_2)).trans hx244_2
                    replace hx244_3 := (HB.out.cell (World.block_lt_of_cell? w _ hx244_3)).trans hx244_3
                    have HR244_3 := Aside0.mk hi244_3
                    have HC244_3 := Aside0.mk hl244_3
                    clear hi244_3 hl244_3
                    replace p244 := eq_true p244
                    replace q244 := eq_true q244
                    go_wp2_with (first | ((with_reducible refine gate_dst (N := 6) rfl ?_); (try (refine gate_guard (by rfl) ?_; dsimp only)); refine box_event ?hg (N := 6) ?hd (cs := #[.int .u32 0, .int .u32 0, .int .u32 0, .slice none 0 0]) (t := 43) ?hr ?_; (case hd => rfl); (case hg => rfl); (case hr => first | (go_simp; done) | (go_simp; rfl)); intro gb245 hg w76 hbox hb; have n0_ := Aside0.mk (bb_ BK242.out hb); have n1_ := Aside0.mk (bb_ BK243.out hb); have n2_ := Aside0.mk (bs_ hb); have n3_ := Aside0.mk (hbox); have n4_ := Aside0.mk ((ge_ hg : w.heap.size ≤ gb245)); have n5_ := Aside0.mk ((ge_ hg : w.heap.size ≤ gb245)); have n6_ := Aside0.mk ((by rw [hg]; exact Nat.ne_of_lt (blk_lt (g := gb242) (o := .cells #[.int .i64 a0_0, .slice (some ad244) l0_1.length c0_1] 24 (0, 0)) (by (with_reducible repeat (first | refine blk_drewN ?_ _ | refine blk_drew ?_ | refine blk_alloc ?_ _)); exact BK242.out)) : gb242 ≠ gb245)); have n7_ := Aside0.mk ((by rw [hg]; exact Nat.ne_of_gt (blk_lt (g := gb242) (o := .cells #[.int .i64 a0_0, .slice (some ad244) l0_1.length c0_1] 24 (0, 0)) (by (with_reducible repeat (first | refine blk_drewN ?_ _ | refine blk_drew ?_ | refine blk_alloc ?_ _)); exact BK242.out)) : gb245 ≠ gb242)); have n8_ := Aside0.mk ((by rw [hg]; exact Nat.ne_of_lt (blk_lt (g := gb243) (o := .cells #[.int .i64 a1_0, .slice A1_1 l1_1.length c1_1] 24 (0, 0)) (by (with_reducible repeat (first | refine blk_drewN ?_ _ | refine blk_drew ?_ | refine blk_alloc ?_ _)); exact BK243.out)) : gb243 ≠ gb245)); have n9_ := Aside0.mk ((by rw [hg]; exact Nat.ne_of_gt (blk_lt (g := gb243) (o := .cells #[.int .i64 a1_0, .slice A1_1 l1_1.length c1_1] 24 (0, 0)) (by (with_reducible repeat (first | refine blk_drewN ?_ _ | refine blk_drew ?_ | refine blk_alloc ?_ _)); exact BK243.out)) : gb245 ≠ gb243)); clear BK242 BK243 HB; have BK242 := n0_; have BK243 := n1_; have HB := n2_; have BK245 := n3_; have GW245 := n4_; have GE245 := n5_; have NB242_245 := n6_; have NB245_242 := n7_; have NB243_245 := n8_; have NB245_243 := n9_; clear n0_ n1_ n2_ n3_ n4_ n5_ n6_ n7_ n8_ n9_; clear hb hbox hg; have hnb77 := NB245_242.out; have hnc77 := NB242_245.out; have hnb78 := NB245_243.out; have hnc78 := NB243_245.out; have ⟨hcz79_0, hcz79_1, hcz79_2, hcz79_3⟩ := cz4_ BK245.out; have ⟨hfz79_0, hfz79_1, hfz79_2, hfz79_3⟩ := fz4_ BK245.out; have ⟨hcz80_0, hcz80_1⟩ := cz2_ BK243.out; have ⟨hfz80_0, hfz80_1⟩ := fz2_ BK243.out; have p246 : 0 ≤ (x5_2 : Int) := of_decide_eq_true (by first | (with_reducible assumption) | assumption); have q246 : x5_2 < (l1_1.length : Int) := of_decide_eq_true (by first | (with_reducible assumption) | assumption); obtain ⟨ad246, A246_3, c246_3, e246, hx246_0, hx246_1, hx246_2, hx246_3, hl246_3, hi246_3⟩ := at_T43 HR1_1.out x5_2 p246 q246; cases e246; have hn246_0 : ad246.block ≠ gb245 := Nat.ne_of_lt (Nat.lt_of_lt_of_le (by have := World.block_lt_of_cell? _ _ hx246_0; first | rwa [add_block] at this | exact this) GW245.out); have hn246_1 : ad246.block ≠ gb245 := Nat.ne_of_lt (Nat.lt_of_lt_of_le (by have := World.block_lt_of_cell? _ _ hx246_0; first | rwa [add_block] at this | exact this) GW245.out); have hn246_2 : ad246.block ≠ gb245 := Nat.ne_of_lt (Nat.lt_of_lt_of_le (by have := World.block_lt_of_cell? _ _ hx246_0; first | rwa [add_block] at this | exact this) GW245.out); have hn246_3 : ad246.block ≠ gb245 := Nat.ne_of_lt (Nat.lt_of_lt_of_le (by have := World.block_lt_of_cell? _ _ hx246_0; first | rwa [add_block] at this | exact this) GW245.out); replace hx246_0 := (HB.out.cell (World.block_lt_of_cell? w _ hx246_0)).trans hx246_0; replace hx246_1 := (HB.out.cell (World.block_lt_of_cell? w _ hx246_1)).trans hx246_1; replace hx246_2 := (HB.out.cell (World.block_lt_of_cell? w _ hx246_2)).trans hx246_2; replace hx246_3 := (HB.out.cell (World.block_lt_of_cell? w _ hx246_3)).trans hx246_3; have HR246_3 := Aside0.mk hi246_3; have HC246_3 := Aside0.mk hl246_3; clear hi246_3 hl246_3; replace hx246_0 := (cell_far (p := ⟨gb245, 0, none⟩) (by first | (rw [add_block]; exact hn246_0) | (show (Addr.add _ _).block ≠ _; rw [add_block]; exact hn246_0) | exact hn246_0) (.int .u32 ((rd_T43 l0_1 x5_2).f0))).trans hx246_0; replace hx246_1 := (cell_far (p := ⟨gb245, 0, none⟩) (by first | (rw [add_block]; exact hn246_0) | (show (Addr.add _ _).block ≠ _; rw [add_block]; exact hn246_0) | exact hn246_0) (.int .u32 ((rd_T43 l0_1 x5_2).f0))).trans hx246_1; replace hx246_2 := (cell_far (p := ⟨gb245, 0, none⟩) (by first | (rw [add_block]; exact hn246_0) | (show (Addr.add _ _).block ≠ _; rw [add_block]; exact hn246_0) | exact hn246_0) (.int .u32 ((rd_T43 l0_1 x5_2).f0))).trans hx246_2; replace hx246_3 := (cell_far (p := ⟨gb245, 0, none⟩) (by first | (rw [add_block]; exact hn246_0) | (show (Addr.add _ _).block ≠ _; rw [add_block]; exact hn246_0) | exact hn246_0) (.int .u32 ((rd_T43 l0_1 x5_2).f0))).trans hx246_3; replace hx246_0 := (cell_far (p := ⟨gb245, 1, none⟩) (by first | (rw [add_block]; exact hn246_1) | (show (Addr.add _ _).block ≠ _; rw [add_block]; exact hn246_1) | exact hn246_1) (.int .u32 ((rd_T43 l0_1 x5_2).f1))).trans hx246_0; replace hx246_1 := (cell_far (p := ⟨gb245, 1, none⟩) (by first | (rw [add_block]; exact hn246_1) | (show (Addr.add _ _).block ≠ _; rw [add_block]; exact hn246_1) | exact hn246_1) (.int .u32 ((rd_T43 l0_1 x5_2).f1))).trans hx246_1; replace hx246_2 := (cell_far (p := ⟨gb245, 1, none⟩) (by first | (rw [add_block]; exact hn246_1) | (show (Addr.add _ _).block ≠ _; rw [add_block]; exact hn246_1) | exact hn246_1) (.int .u32 ((rd_T43 l0_1 x5_2).f1))).trans hx246_2; replace hx246_3 := (cell_far (p := ⟨gb245, 1, none⟩) (by first | (rw [add_block]; exact hn246_1) | (show (Addr.add _ _).block ≠ _; rw [add_block]; exact hn246_1) | exact hn246_1) (.int .u32 ((rd_T43 l0_1 x5_2).f1))).trans hx246_3; replace hx246_0 := (cell_far (p := ⟨gb245, 2, none⟩) (by first | (rw [add_block]; exact hn246_2) | (show (Addr.add _ _).block ≠ _; rw [add_block]; exact hn246_2) | exact hn246_2) (.int .u32 ((rd_T43 l0_1 x5_2).f2))).trans hx246_0; replace hx246_1 := (cell_far (p := ⟨gb245, 2, none⟩) (by first | (rw [add_block]; exact hn246_2) | (show (Addr.add _ _).block ≠ _; rw [add_block]; exact hn246_2) | exact hn246_2) (.int .u32 ((rd_T43 l0_1 x5_2).f2))).trans hx246_1; replace hx246_2 := (cell_far (p := ⟨gb245, 2, none⟩) (by first | (rw [add_block]; exact hn246_2) | (show (Addr.add _ _).block ≠ _; rw [add_block]; exact hn246_2) | exact hn246_2) (.int .u32 ((rd_T43 l0_1 x5_2).f2))).trans hx246_2; replace hx246_3 := (cell_far (p := ⟨gb245, 2, none⟩) (by first | (rw [add_block]; exact hn246_2) | (show (Addr.add _ _).block ≠ _; rw [add_block]; exact hn246_2) | exact hn246_2) (.int .u32 ((rd_T43 l0_1 x5_2).f2))).trans hx246_3; replace hx246_0 := (cell_far (p := ⟨gb245, 3, none⟩) (by first | (rw [add_block]; exact hn246_3) | (show (Addr.add _ _).block ≠ _; rw [add_block]; exact hn246_3) | exact hn246_3) (.slice A244_3 ((rd_T43 l0_1 x5_2).f3).length c244_3)).trans hx246_0; replace hx246_1 := (cell_far (p := ⟨gb245, 3, none⟩) (by first | (rw [add_block]; exact hn246_3) | (show (Addr.add _ _).block ≠ _; rw [add_block]; exact hn246_3) | exact hn246_3) (.slice A244_3 ((rd_T43 l0_1 x5_2).f3).length c244_3)).trans hx246_1; replace hx246_2 := (cell_far (p := ⟨gb245, 3, none⟩) (by first | (rw [add_block]; exact hn246_3) | (show (Addr.add _ _).block ≠ _; rw [add_block]; exact hn246_3) | exact hn246_3) (.slice A244_3 ((rd_T43 l0_1 x5_2).f3).length c244_3)).trans hx246_2; replace hx246_3 := (cell_far (p := ⟨gb245, 3, none⟩) (by first | (rw [add_block]; exact hn246_3) | (show (Addr.add _ _).block ≠ _; rw [add_block]; exact hn246_3) | exact hn246_3) (.slice A244_3 ((rd_T43 l0_1 x5_2).f3).length c244_3)).trans hx246_3; clear hn246_0; clear hn246_1; clear hn246_2; clear hn246_3; replace p246 := eq_true p246; replace q246 := eq_true q246) | ((with_reducible refine gate_dst (N := 7) rfl ?_); (try (refine gate_guard (by rfl) ?_; dsimp only)); refine box_event ?hg (N := 7) ?hd (cs := #[.int .u32 0, .int .u32 0, .int .u32 0, .slice none 0 0]) (t := 43) ?hr ?_; (case hd => rfl); (case hg => rfl); (case hr => first | (go_simp; done) | (go_simp; rfl)); intro gb247 hg w81 hbox hb; have n2_ := Aside0.mk (blk_below (g := gb245) (o := .cells #[.int .u32 ((rd_T43 l0_1 x5_2).f0), .int .u32 ((rd_T43 l0_1 x5_2).f1), .int .u32 ((rd_T43 l0_1 x5_2).f2), .slice A244_3 ((rd_T43 l0_1 x5_2).f3).length c244_3] 43 (0, 0)) (bp4_ BK245.out) hb); have n3_ := Aside0.mk (bs_ hb); have n4_ := Aside0.mk (hbox); have n6_ := Aside0.mk ((ge_ hg : w.heap.size ≤ gb247)); have n7_ := Aside0.mk ((by rw [hg]; exact Nat.ne_of_lt (blk_lt (g := gb242) (o := .cells #[.int .i64 a0_0, .slice (some ad244) l0_1.length c0_1] 24 (0, 0)) (bf4_ BK242.out NB242_245.out)) : gb242 ≠ gb247)); have n8_ := Aside0.mk ((by rw [hg]; exact Nat.ne_of_gt (blk_lt (g := gb242) (o := .cells #[.int .i64 a0_0, .slice (some ad244) l0_1.length c0_1] 24 (0, 0)) (bf4_ BK242.out NB242_245.out)) : gb247 ≠ gb242)); have n9_ := Aside0.mk ((by rw [hg]; exact Nat.ne_of_lt (blk_lt (g := gb243) (o := .cells #[.int .i64 a1_0, .slice (some ad246) l1_1.length c1_1] 24 (0, 0)) (bf4_ BK243.out NB243_245.out)) : gb243 ≠ gb247)); have n10_ := Aside0.mk ((by rw [hg]; exact Nat.ne_of_gt (blk_lt (g := gb243) (o := .cells #[.int .i64 a1_0, .slice (some ad246) l1_1.length c1_1] 24 (0, 0)) (bf4_ BK243.out NB243_245.out)) : gb247 ≠ gb243)); have n11_ := Aside0.mk ((by rw [hg]; exact Nat.ne_of_lt (blk_lt (g := gb245) (o := .cells #[.int .u32 ((rd_T43 l0_1 x5_2).f0), .int .u32 ((rd_T43 l0_1 x5_2).f1), .int .u32 ((rd_T43 l0_1 x5_2).f2), .slice A244_3 ((rd_T43 l0_1 x5_2).f3).length c244_3] 43 (0, 0)) (bp4_ BK245.out)) : gb245 ≠ gb247)); have n12_ := Aside0.mk ((by rw [hg]; exact Nat.ne_of_gt (blk_lt (g := gb245) (o := .cells #[.int .u32 ((rd_T43 l0_1 x5_2).f0), .int .u32 ((rd_T43 l0_1 x5_2).f1), .int .u32 ((rd_T43 l0_1 x5_2).f2), .slice A244_3 ((rd_T43 l0_1 x5_2).f3).length c244_3] 43 (0, 0)) (bp4_ BK245.out)) : gb247 ≠ gb245)); clear BK242 BK243 BK245 HB; have BK245 := n2_; have HB := n3_; have BK247 := n4_; have GE247 := n6_; have NB242_247 := n7_; have NB247_242 := n8_; have NB243_247 := n9_; have NB247_243 := n10_; have NB245_247 := n11_; have NB247_245 := n12_; clear n2_ n3_ n4_ n6_ n7_ n8_ n9_ n10_ n11_ n12_; clear hb hbox hg; have hnb82 := NB247_242.out; have hnc82 := NB242_247.out; have hnb83 := NB247_243.out; have hnc83 := NB243_247.out; have hnb84 := NB247_245.out; have hnc84 := NB245_247.out; have ⟨hcz85_0, hcz85_1, hcz85_2, hcz85_3⟩ := cz4_ BK247.out; have ⟨hfz85_0, hfz85_1, hfz85_2, hfz85_3⟩ := fz4_ BK247.out; have ⟨hcz86_0, hcz86_1, hcz86_2, hcz86_3⟩ := cz4_ BK245.out; have ⟨hfz86_0, hfz86_1, hfz86_2, hfz86_3⟩ := fz4_ BK245.out))
                    go_ret
                    exact ⟨by first | rfl | (simp [errW_none, errW_some] <;> rfl) | (simp [*, errW_none, errW_some] <;> rfl), by repeat (first | (with_reducible first | exact HB.out | apply below_alloc | apply pw_below_drewN | apply below_drew1 | refine below_set ?_ GE242.out | refine below_set ?_ GE243.out | refine below_set ?_ GE245.out | refine below_set ?_ GE247.out) | exact HB.out)⟩
                · rw [if_neg c16] at H
                  exact absurd H (by simp)
              · rw [if_neg c15] at H
                exact absurd H (by simp)
            · rw [if_neg c14] at H
              have c14b0 : decide (x5_2 < (l0_1.length : Int)) = false := decide_eq_false c14
              clear c14
              obtain rfl := Option.some.inj H
              have hnb87 := NB242_243.out
              have hnc87 := NB243_242.out
              have ⟨hcz88_0, hcz88_1⟩ := cz2_ BK242.out
              have ⟨hfz88_0, hfz88_1⟩ := fz2_ BK242.out
              go_wp2
              go_ret
              exact ⟨by first | rfl | (simp [errW_none, errW_some] <;> rfl) | (simp [*, errW_none, errW_some] <;> rfl), by repeat (first | (with_reducible first | exact HB.out | apply below_alloc | apply pw_below_drewN | apply below_drew1 | refine below_set ?_ GE242.out | refine below_set ?_ GE243.out) | exact HB.out)⟩

/-! ### chamberlainref07_Few: function 9 -/
mutual
def chamberlainref07_Few.l0 : Nat → Int → Int → List (S43) → Option (Bool)
  | 0, _, _, _ => none
  | k + 1, x3, x250000, x250001 => if x3 < (x250001.length : Int) then (chamberlainref07_Few.j1 k x3 (decide (x3 < 100)) x250000 x250001) else (chamberlainref07_Few.j1 k x3 false x250000 x250001)
def chamberlainref07_Few.j1 : Nat → Int → Bool → Int → List (S43) → Option (Bool)
  | 0, _, _, _, _ => none
  | k + 1, x3, x12, x250000, x250001 => if x12 = true then (if 0 ≤ x3 then (if x3 < (x250001.length : Int) then (if (((rd_T43 x250001 x3).f3).length : Int) > 100 then (some false) else (chamberlainref07_Few.l0 k (wrap64 (x3 + 1)) x250000 x250001)) else (none)) else (none)) else (some (decide ((x250001.length : Int) ≤ 70)))
end
def chamberlainref07_Few.f (k : Nat) (a0_0 : Int) (l0_1 : List (S43)) : Option (Bool) := chamberlainref07_Few.l0 k 0 a0_0 l0_1
theorem chamberlainref07_Few.mono_l : ∀ k, (∀ y0 y1 y2, LeO (chamberlainref07_Few.l0 k y0 y1 y2) (chamberlainref07_Few.l0 (k + 1) y0 y1 y2)) ∧ (∀ y0 y1 y2 y3, LeO (chamberlainref07_Few.j1 k y0 y1 y2 y3) (chamberlainref07_Few.j1 (k + 1) y0 y1 y2 y3))
  | 0 => ⟨fun _ _ _ r h => by simp [chamberlainref07_Few.l0] at h, fun _ _ _ _ r h => by simp [chamberlainref07_Few.j1] at h⟩
  | k + 1 => by
    obtain ⟨ih0, ih1⟩ := chamberlainref07_Few.mono_l k
    refine ⟨?_, ?_⟩
    · intro y0 y1 y2
      unfold chamberlainref07_Few.l0
      repeat' first
      | (with_reducible exact ih0 _ _ _)
      | (with_reducible exact ih1 _ _ _ _)
      | (with_reducible exact LeO.refl _)
      | (with_reducible exact LeO.none _)
      | (with_reducible refine LeO.ite ?_ ?_)
      | (with_reducible refine LeO.bind ?_ (fun _ => ?_))
      | exact ih0 _ _ _
      | exact ih1 _ _ _ _
      | exact LeO.none _
      | refine LeO.ite ?_ ?_
      | refine LeO.bind ?_ (fun _ => ?_)
    · intro y0 y1 y2 y3
      unfold chamberlainref07_Few.j1
      repeat' first
      | (with_reducible exact ih0 _ _ _)
      | (with_reducible exact ih1 _ _ _ _)
      | (with_reducible exact LeO.refl _)
      | (with_reducible exact LeO.none _)
      | (with_reducible refine LeO.ite ?_ ?_)
      | (with_reducible refine LeO.bind ?_ (fun _ => ?_))
      | exact ih0 _ _ _
      | exact ih1 _ _ _ _
      | exact LeO.none _
      | refine LeO.ite ?_ ?_
      | refine LeO.bind ?_ (fun _ => ?_)
theorem chamberlainref07_Few.mono : ∀ a0 a1 k, LeO (chamberlainref07_Few.f k a0 a1) (chamberlainref07_Few.f (k + 1) a0 a1) := by
  intro a0 a1 k
  obtain ⟨ih0, ih1⟩ := chamberlainref07_Few.mono_l k
  unfold chamberlainref07_Few.f
  repeat' first
      | (with_reducible exact ih0 _ _ _)
      | (with_reducible exact ih1 _ _ _ _)
      | (with_reducible exact LeO.refl _)
      | (with_reducible exact LeO.none _)
      | (with_reducible refine LeO.ite ?_ ?_)
      | (with_reducible refine LeO.bind ?_ (fun _ => ?_))
      | exact ih0 _ _ _
      | exact ih1 _ _ _ _
      | exact LeO.none _
      | refine LeO.ite ?_ ?_
      | refine LeO.bind ?_ (fun _ => ?_)
set_option maxHeartbeats 8000000 in
set_option maxRecDepth 100000 in
theorem chamberlainref07_Few.calls (k : Nat) (a0_0 : Int) (A0_1 : Option Addr) (c0_1 : Nat) (l0_1 : List (S43)) (r : Bool) (w : World) (hr0_1 : Kd.C k43 w A0_1 l0_1.length l0_1) (hc0_1 : l0_1.length ≤ c0_1) (h : chamberlainref07_Few.f k a0_0 l0_1 = some r) :
    Calls Try.prog 9 #[.agg #[.int .i64 a0_0, .slice A0_1 l0_1.length c0_1]] w fun e w' => e = .returned (.bool r) ∧ Below w.heap.size w w' := by
  have hu24 := Try.underlying24
  have HR0_1 := Aside0.mk hr0_1
  have HC0_1 := Aside0.mk hc0_1
  clear hr0_1 hc0_1
  have HB := Aside0.mk (Below.refl w.heap.size w)
  have H : (chamberlainref07_Few.l0 k 0 a0_0 l0_1) = some r := h
  clear h
  have H' := Aside0.mk H
  clear H
  go_enter Try.func9, Try.ntmps9
  go_wp2_with (first | ((with_reducible refine gate_dst (N := 1) rfl ?_); refine box_event ?hg (N := 1) ?hd (cs := #[.int .i64 a0_0, .slice A0_1 l0_1.length c0_1]) (t := 24) ?hr ?_; (case hd => rfl); (case hg => rfl); (case hr => first | (go_simp; done) | (go_simp; rfl)); intro gb249 hg w2 hbox hb; have n0_ := Aside0.mk (bs_ hb); have n1_ := Aside0.mk (hbox); have n3_ := Aside0.mk ((ge_ hg : w.heap.size ≤ gb249)); clear HB; have HB := n0_; have BK249 := n1_; have GE249 := n3_; clear n0_ n1_ n3_; clear hb hbox hg))
  go_loopg [3] k (fun kq v3 w' => ∃ (x3_1 : Int), v3 = .int .i64 x3_1 ∧ Aside0 (chamberlainref07_Few.l0 kq x3_1 a0_0 l0_1 = some r) ∧ Aside0 (kq ≤ k) ∧ Aside0 (w'.heap[gb249]? = some (.cells #[.int .i64 a0_0, (.slice A0_1 l0_1.length c0_1)] 24 (0, 0))) ∧ Aside0 (Below w.heap.size w w'))
  case atStart => exact ⟨(0), (by first | rfl | (simp; done) | (simp [*]; done)), H', ⟨Nat.le_refl _⟩, ⟨by (with_reducible repeat (first | refine blk_drewN ?_ _ | refine blk_drew ?_ | refine blk_alloc ?_ _)); exact BK249.out⟩, ⟨by repeat (first | (with_reducible first | exact HB.out | apply below_alloc | apply pw_below_drewN | apply below_drew1 | refine below_set ?_ GE249.out) | exact HB.out)⟩⟩
  case round =>
    clear H'
    try clear p2
    obtain ⟨x3_1, rfl, HA, HK1, BK249, HB⟩ := hrel
    cases gk with
    | zero => exact absurd HA.out (by simp [chamberlainref07_Few.l0])
    | succ k1 =>
      have H := HA.out
      clear HA
      simp only [chamberlainref07_Few.l0] at H
      have HC3 := Aside0.mk H
      clear H
      go_upto_region 2 with (fail)
      go_cut [12] (fun v12 wc => ∃ (kq : Nat) (x12_2 : Bool), v12 = .bool x12_2 ∧ Aside0 (chamberlainref07_Few.j1 kq x3_1 x12_2 a0_0 l0_1 = some r) ∧ Aside0 (kq ≤ k1) ∧ Aside0 (wc.heap[gb249]? = some (.cells #[.int .i64 a0_0, (.slice A0_1 l0_1.length c0_1)] 24 (0, 0))) ∧ Aside0 (Below w.heap.size w wc))
      case first =>
        have H := HC3.out
        clear HC3
        by_cases c4 : x3_1 < (l0_1.length : Int)
        · rw [if_pos c4] at H
          have c4b0 : decide (x3_1 < (l0_1.length : Int)) = true := decide_eq_true c4
          clear c4
          (first | rw [c4b0] | (simp only [i64_w, i32_w]; rw [c4b0]) | skip)
          have H' := Aside0.mk H
          clear H
          have ⟨hcz5_0, hcz5_1⟩ := cz2_ BK249.out
          have ⟨hfz5_0, hfz5_1⟩ := fz2_ BK249.out
          go_wp2
          go_meet
          case rel => exact ⟨_, (decide (x3_1 < 100)), (by first | rfl | (simp; done) | (simp [*]; done)), H', ⟨by have := HK1.out; first | omega | exact Nat.le_refl _⟩, ⟨by (with_reducible repeat (first | refine blk_drewN ?_ _ | refine blk_drew ?_ | refine blk_alloc ?_ _)); exact BK249.out⟩, ⟨by repeat (first | (with_reducible first | exact HB.out | apply below_alloc | apply pw_below_drewN | apply below_drew1 | refine below_set ?_ GE249.out) | exact HB.out)⟩⟩
        · rw [if_neg c4] at H
          have c4b0 : decide (x3_1 < (l0_1.length : Int)) = false := decide_eq_false c4
          clear c4
          (first | rw [c4b0] | (simp only [i64_w, i32_w]; rw [c4b0]) | skip)
          have H' := Aside0.mk H
          clear H
          have ⟨hcz6_0, hcz6_1⟩ := cz2_ BK249.out
          have ⟨hfz6_0, hfz6_1⟩ := fz2_ BK249.out
          go_wp2
          go_meet
          case rel => exact ⟨_, (false), (by first | rfl | (simp; done) | (simp [*]; done)), H', ⟨by have := HK1.out; first | omega | exact Nat.le_refl _⟩, ⟨by (with_reducible repeat (first | refine blk_drewN ?_ _ | refine blk_drew ?_ | refine blk_alloc ?_ _)); exact BK249.out⟩, ⟨by repeat (first | (with_reducible first | exact HB.out | apply below_alloc | apply pw_below_drewN | apply below_drew1 | refine below_set ?_ GE249.out) | exact HB.out)⟩⟩
      case rest =>
        clear HC3
        try clear p2
        try clear c4
        try clear c4b0
        try clear hcz5_0
        try clear hcz5_1
        try clear hcz6_0
        try clear hcz6_1
        try clear hfz5_0
        try clear hfz5_1
        try clear hfz6_0
        try clear hfz6_1
        try clear p2
        obtain ⟨kq, x12_2, rfl, HA, HJ2, BK249, HB⟩ := hcut
        cases kq with
        | zero => exact absurd HA.out (by simp [chamberlainref07_Few.j1])
        | succ kj2 =>
          have H := HA.out
          clear HA
          simp only [chamberlainref07_Few.j1] at H
          by_cases c7 : x12_2 = true
          · subst c7
            have H1 : (if 0 ≤ x3_1 then (if x3_1 < (l0_1.length : Int) then (if (((rd_T43 l0_1 x3_1).f3).length : Int) > 100 then (some false) else (chamberlainref07_Few.l0 kj2 (wrap64 (x3_1 + 1)) a0_0 l0_1)) else (none)) else (none)) = some r := by rw [if_pos rfl] at H; exact H
            clear H
            have H := H1
            clear H1
            by_cases c8 : 0 ≤ x3_1
            · rw [if_pos c8] at H
              have c8b0 : decide (0 ≤ x3_1) = true := decide_eq_true c8
              clear c8
              by_cases c9 : x3_1 < (l0_1.length : Int)
              · rw [if_pos c9] at H
                have c9b0 : decide (x3_1 < (l0_1.length : Int)) = true := decide_eq_true c9
                clear c9
                by_cases c10 : (((rd_T43 l0_1 x3_1).f3).length : Int) > 100
                · rw [if_pos c10] at H
                  have c10b0 : decide (100 < (((rd_T43 l0_1 x3_1).f3).length : Int)) = true := decide_eq_true c10
                  have c10b1 : decide (100 < ((rd_T43 l0_1 x3_1).f3).length) = true := decide_eq_true (by omega)
                  clear c10
                  obtain rfl := Option.some.inj H
                  have ⟨hcz11_0, hcz11_1⟩ := cz2_ BK249.out
                  have ⟨hfz11_0, hfz11_1⟩ := fz2_ BK249.out
                  have p250 : 0 ≤ (x3_1 : Int) := of_decide_eq_true (by first | (with_reducible assumption) | assumption)
                  have q250 : x3_1 < (l0_1.length : Int) := of_decide_eq_true (by first | (with_reducible assumption) | assumption)
                  obtain ⟨ad250, A250_3, c250_3, e250, hx250_0, hx250_1, hx250_2, hx250_3, hl250_3, hi250_3⟩ := at_T43 HR0_1.out x3_1 p250 q250
                  cases e250
                  replace hx250_0 := (HB.out.cell (World.block_lt_of_cell? w _ hx250_0)).trans hx250_0
                  replace hx250_1 := (HB.out.cell (World.block_lt_of_cell? w _ hx250_1)).trans hx250_1
                  replace hx250_2 := (HB.out.cell (World.block_lt_of_cell? w _ hx250_2)).trans hx250_2
                  replace hx250_3 := (HB.out.cell (World.block_lt_of_cell? w _ hx250_3)).trans hx250_3
                  have HR250_3 := Aside0.mk hi250_3
                  have HC250_3 := Aside0.mk hl250_3
                  clear hi250_3 hl250_3
                  replace p250 := eq_true p250
                  replace q250 := eq_true q250
                  go_wp2
                  go_ret
                  exact ⟨by first | rfl | (simp [errW_none, errW_some] <;> rfl) | (simp [*, errW_none, errW_some] <;> rfl), by repeat (first | (with_reducible first | exact HB.out | apply below_alloc | apply pw_below_drewN | apply below_drew1 | refine below_set ?_ GE249.out) | exact HB.out)⟩
                · rw [if_neg c10] at H
                  have c10b0 : decide (100 < (((rd_T43 l0_1 x3_1).f3).length : Int)) = false := decide_eq_false c10
                  have c10b1 : decide (100 < ((rd_T43 l0_1 x3_1).f3).length) = false := decide_eq_false (by omega)
                  clear c10
                  have H' := Aside0.mk H
                  clear H
                  have ⟨hcz12_0, hcz12_1⟩ := cz2_ BK249.out
                  have ⟨hfz12_0, hfz12_1⟩ := fz2_ BK249.out
                  have p250 : 0 ≤ (x3_1 : Int) := of_decide_eq_true (by first | (with_reducible assumption) | assumption)
                  have q250 : x3_1 < (l0_1.length : Int) := of_decide_eq_true (by first | (with_reducible assumption) | assumption)
                  obtain ⟨ad250, A250_3, c250_3, e250, hx250_0, hx250_1, hx250_2, hx250_3, hl250_3, hi250_3⟩ := at_T43 HR0_1.out x3_1 p250 q250
                  cases e250
                  replace hx250_0 := (HB.out.cell (World.block_lt_of_cell? w _ hx250_0)).trans hx250_0
                  replace hx250_1 := (HB.out.cell (World.block_lt_of_cell? w _ hx250_1)).trans hx250_1
                  replace hx250_2 := (HB.out.cell (World.block_lt_of_cell? w _ hx250_2)).trans hx250_2
                  replace hx250_3 := (HB.out.cell (World.block_lt_of_cell? w _ hx250_3)).trans hx250_3
                  have HR250_3 := Aside0.mk hi250_3
                  have HC250_3 := Aside0.mk hl250_3
                  clear hi250_3 hl250_3
                  replace p250 := eq_true p250
                  replace q250 := eq_true q250
                  go_wp2
                  go_roundg kj2
                  case measure => have := HK1.out; have := HJ2.out; omega
                  case rel => exact ⟨(wrap64 (x3_1 + 1)), (by first | rfl | (simp; done) | (simp [*]; done)), H', ⟨by have := HK1.out; have := HJ2.out; omega⟩, ⟨by (with_reducible repeat (first | refine blk_drewN ?_ _ | refine blk_drew ?_ | refine blk_alloc ?_ _)); exact BK249.out⟩, ⟨by repeat (first | (with_reducible first | exact HB.out | apply below_alloc | apply pw_below_drewN | apply below_drew1 | refine below_set ?_ GE249.out) | exact HB.out)⟩⟩
              · rw [if_neg c9] at H
                exact absurd H (by simp)
            · rw [if_neg c8] at H
              exact absurd H (by simp)
          · replace c7 := Bool.eq_false_iff.mpr c7
            subst c7
            have H1 : (some (decide ((l0_1.length : Int) ≤ 70))) = some r := by rw [if_neg (show ¬ (false = true) by decide)] at H; exact H
            clear H
            have H := H1
            clear H1
            obtain rfl := Option.some.inj H
            have ⟨hcz13_0, hcz13_1⟩ := cz2_ BK249.out
            have ⟨hfz13_0, hfz13_1⟩ := fz2_ BK249.out
            go_wp2
            go_ret
            exact ⟨by first | rfl | (simp [errW_none, errW_some] <;> rfl) | (simp [*, errW_none, errW_some] <;> rfl), by repeat (first | (with_reducible first | exact HB.out | apply below_alloc | apply pw_below_drewN | apply below_drew1 | refine below_set ?_ GE249.out) | exact HB.out)⟩

end Go.Proofs.Ytifdlpnpbicahaa.PBoxKeeps
