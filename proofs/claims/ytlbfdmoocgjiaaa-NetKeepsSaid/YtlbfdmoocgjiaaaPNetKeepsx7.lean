-- Written for this claim by wip/tools/myprint.py (print.py's forms; proofs of the faked functions by hand).
import Derived.Test.YtlbfdmoocgjiaaaPNetKeepsx1
import Derived.Test.YtlbfdmoocgjiaaaPNetKeepsx2
import Derived.Test.YtlbfdmoocgjiaaaPNetKeepsx4
import Derived.Test.YtlbfdmoocgjiaaaPNetKeepsx5
import Derived.Test.YtlbfdmoocgjiaaaPNetKeepsx6
import Derived.Test.YtlbfdmoocgjiaaaPNetKeepsx0
import Derived.Test.YtlbfdmoocgjiaaaPNetKeepsx3
namespace Go.Proofs.Ytlbfdmoocgjiaaa.PNetKeeps
open Go.RowKit Go.Proofs.YtlbfdmoocgjiaaaW.PrintWords Go.Proofs.YtlbfdmoocgjiaaaW.PrintLast Go.Proofs.YtlbfdmoocgjiaaaW.PrintMore
attribute [local go_sem] max2_int min2_int max_two min_two max_three min_three max_four min_four   -- for this text's walks alone
set_option linter.unusedVariables false
set_option linter.unusedSimpArgs false

/-! ### chamberlainref06_Take: function 15 -/
mutual
def chamberlainref06_Take.j0 : Nat → Int → Bool → Int → List (S29) → List (List Int) → Option (Int × (List (S29)) × (List (List Int)) × Int × List Int × Int)
  | 0, _, _, _, _, _ => none
  | k + 1, x1, x18, x311000, x311001, x311002 => if x18 = true then (some (x311000, x311001, x311002, 0, ([] : List Int), 1)) else (chamberlainref06_Take.l0 k x1 ([] : List (S29)) 0 x311000 x311001 x311002)
def chamberlainref06_Take.l0 : Nat → Int → List (S29) → Int → Int → List (S29) → List (List Int) → Option (Int × (List (S29)) × (List (List Int)) × Int × List Int × Int)
  | 0, _, _, _, _, _, _ => none
  | k + 1, x1, x7, x8, x311000, x311001, x311002 => if x8 < (x311001.length : Int) then (if x8 = x1 then (chamberlainref06_Take.l0 k x1 x7 (wrap64 (x8 + 1)) x311000 x311001 x311002) else (if 0 ≤ x8 then (if x7.length < 4398046511104 then (chamberlainref06_Take.l0 k x1 (x7 ++ [(⟨(rd_T29 x311001 x8).f0, (rd_T29 x311001 x8).f1⟩ : S29)]) (wrap64 (x8 + 1)) x311000 x311001 x311002) else (none)) else (none))) else (if 0 ≤ x1 then (if x1 < (x311001.length : Int) then (some (x311000, x7, x311002, (rd_T29 x311001 x1).f0, (rd_T29 x311001 x1).f1, 0)) else (none)) else (none))
end
def chamberlainref06_Take.f (k : Nat) (a0_0 : Int) (l0_1 : List (S29)) (l0_2 : List (List Int)) (a1 : Int) : Option (Int × (List (S29)) × (List (List Int)) × Int × List Int × Int) := if a1 < 0 then (chamberlainref06_Take.j0 k a1 true a0_0 l0_1 l0_2) else (chamberlainref06_Take.j0 k a1 (decide (a1 ≥ (l0_1.length : Int))) a0_0 l0_1 l0_2)
theorem chamberlainref06_Take.mono_l : ∀ k, (∀ y0 y1 y2 y3 y4, LeO (chamberlainref06_Take.j0 k y0 y1 y2 y3 y4) (chamberlainref06_Take.j0 (k + 1) y0 y1 y2 y3 y4)) ∧ (∀ y0 y1 y2 y3 y4 y5, LeO (chamberlainref06_Take.l0 k y0 y1 y2 y3 y4 y5) (chamberlainref06_Take.l0 (k + 1) y0 y1 y2 y3 y4 y5))
  | 0 => ⟨fun _ _ _ _ _ r h => by simp [chamberlainref06_Take.j0] at h, fun _ _ _ _ _ _ r h => by simp [chamberlainref06_Take.l0] at h⟩
  | k + 1 => by
    obtain ⟨ih0, ih1⟩ := chamberlainref06_Take.mono_l k
    refine ⟨?_, ?_⟩
    · intro y0 y1 y2 y3 y4
      unfold chamberlainref06_Take.j0
      repeat' first
      | (with_reducible exact ih0 _ _ _ _ _)
      | (with_reducible exact ih1 _ _ _ _ _ _)
      | (with_reducible exact LeO.refl _)
      | (with_reducible exact LeO.none _)
      | (with_reducible refine LeO.ite ?_ ?_)
      | (with_reducible refine LeO.bind ?_ (fun _ => ?_))
      | exact ih0 _ _ _ _ _
      | exact ih1 _ _ _ _ _ _
      | exact LeO.none _
      | refine LeO.ite ?_ ?_
      | refine LeO.bind ?_ (fun _ => ?_)
    · intro y0 y1 y2 y3 y4 y5
      unfold chamberlainref06_Take.l0
      repeat' first
      | (with_reducible exact ih0 _ _ _ _ _)
      | (with_reducible exact ih1 _ _ _ _ _ _)
      | (with_reducible exact LeO.refl _)
      | (with_reducible exact LeO.none _)
      | (with_reducible refine LeO.ite ?_ ?_)
      | (with_reducible refine LeO.bind ?_ (fun _ => ?_))
      | exact ih0 _ _ _ _ _
      | exact ih1 _ _ _ _ _ _
      | exact LeO.none _
      | refine LeO.ite ?_ ?_
      | refine LeO.bind ?_ (fun _ => ?_)
theorem chamberlainref06_Take.mono : ∀ a0 a1 a2 a3 k, LeO (chamberlainref06_Take.f k a0 a1 a2 a3) (chamberlainref06_Take.f (k + 1) a0 a1 a2 a3) := by
  intro a0 a1 a2 a3 k
  obtain ⟨ih0, ih1⟩ := chamberlainref06_Take.mono_l k
  unfold chamberlainref06_Take.f
  repeat' first
      | (with_reducible exact ih0 _ _ _ _ _)
      | (with_reducible exact ih1 _ _ _ _ _ _)
      | (with_reducible exact LeO.refl _)
      | (with_reducible exact LeO.none _)
      | (with_reducible refine LeO.ite ?_ ?_)
      | (with_reducible refine LeO.bind ?_ (fun _ => ?_))
      | exact ih0 _ _ _ _ _
      | exact ih1 _ _ _ _ _ _
      | exact LeO.none _
      | refine LeO.ite ?_ ?_
      | refine LeO.bind ?_ (fun _ => ?_)
set_option maxHeartbeats 8000000 in
set_option maxRecDepth 100000 in
theorem chamberlainref06_Take.calls (k : Nat) (a0_0 : Int) (P0_1_ : Nat → Prop) (A0_1 : Option Addr) (c0_1 : Nat) (l0_1 : List (S29)) (P0_2_ : Nat → Prop) (A0_2 : Option Addr) (c0_2 : Nat) (l0_2 : List (List Int)) (a1 : Int) (r1 : Int) (r2 : List (S29)) (r3 : List (List Int)) (r4 : Int) (r5 : List Int) (r6 : Int) (w : World) (hs0_1 : Kd.V k29 29 w w.heap.size (fun k_ => P0_1_ k_) (.slice A0_1 l0_1.length c0_1) l0_1) (hs0_2 : Kd.V (Kd.slice 26 (Kd.int .u32)) 27 w w.heap.size (fun k_ => P0_2_ k_) (.slice A0_2 l0_2.length c0_2) l0_2) (h : chamberlainref06_Take.f k a0_0 l0_1 l0_2 a1 = some (r1, r2, r3, r4, r5, r6)) :
    Calls Try.prog 15 #[.agg #[.int .i64 a0_0, .slice A0_1 l0_1.length c0_1, .slice A0_2 l0_2.length c0_2], .int .i64 a1] w fun e w' => ∃ v1_ v2_ v4_ : Value, e = .returned (.tuple #[.agg #[.int .i64 r1, v1_, v2_], .agg #[.int .u32 r4, v4_], .int .i64 r6]) ∧ Kd.V k29 29 w' w.heap.size (fun k_ => ((P0_1_ k_ ∨ P0_2_ k_) ∨ w.heap.size ≤ k_)) v1_ r2 ∧ Kd.V (Kd.slice 26 (Kd.int .u32)) 27 w' w.heap.size (fun k_ => ((P0_1_ k_ ∨ P0_2_ k_) ∨ w.heap.size ≤ k_)) v2_ r3 ∧ Kd.V (Kd.int .u32) 26 w' w.heap.size (fun k_ => ((P0_1_ k_ ∨ P0_2_ k_) ∨ w.heap.size ≤ k_)) v4_ r5 ∧ Below w.heap.size w w' := by
  have hu25 := Try.underlying25
  have hu29 := Try.underlying29
  have HO0_1 := Aside0.mk (show Kd.V k29 29 w w.heap.size (fun k_ => ((P0_1_ k_ ∨ P0_2_ k_) ∨ w.heap.size ≤ k_)) (.slice A0_1 l0_1.length c0_1) l0_1 from Kd.V_mono hs0_1 (fun k_ hk => .inl (.inl hk)))
  have HO0_2 := Aside0.mk (show Kd.V (Kd.slice 26 (Kd.int .u32)) 27 w w.heap.size (fun k_ => ((P0_1_ k_ ∨ P0_2_ k_) ∨ w.heap.size ≤ k_)) (.slice A0_2 l0_2.length c0_2) l0_2 from Kd.V_mono hs0_2 (fun k_ hk => .inl (.inr hk)))
  have HB := Aside0.mk (Below.refl w.heap.size w)
  have H : (if a1 < 0 then (chamberlainref06_Take.j0 k a1 true a0_0 l0_1 l0_2) else (chamberlainref06_Take.j0 k a1 (decide (a1 ≥ (l0_1.length : Int))) a0_0 l0_1 l0_2)) = some (r1, r2, r3, r4, r5, r6) := h
  clear h
  have HC3 := Aside0.mk H
  clear H
  go_enter Try.func15, Try.ntmps15
  go_upto_region 1 with (first | ((with_reducible refine gate_dst (N := 2) rfl ?_); (try (refine gate_guard (by rfl) ?_; dsimp only)); refine box_event ?hg (N := 2) ?hd (cs := #[.int .i64 a0_0, .slice A0_1 l0_1.length c0_1, .slice A0_2 l0_2.length c0_2]) (t := 25) ?hr ?_; (case hd => rfl); (case hg => rfl); (case hr => first | (go_simp; done) | (go_simp; rfl)); intro gb310 hg w4 hbox hb; have n0_ := Aside0.mk (ve_ HO0_1.out gb310 hg hb); have n1_ := Aside0.mk (ve_ HO0_2.out gb310 hg hb); have n2_ := Aside0.mk (bs_ hb); have n3_ := Aside0.mk (hbox); have n5_ := Aside0.mk ((ge_ hg : w.heap.size ≤ gb310)); clear HO0_1 HO0_2 HB; have HO0_1 := n0_; have HO0_2 := n1_; have HB := n2_; have BK310 := n3_; have GE310 := n5_; clear n0_ n1_ n2_ n3_ n5_; clear hb hbox hg) | ((with_reducible refine gate_dst (N := 4) rfl ?_); (try (refine gate_guard (by rfl) ?_; dsimp only)); refine box_event ?hg (N := 4) ?hd (cs := #[.int .i64 0, .slice none 0 0, .slice none 0 0]) (t := 25) ?hr ?_; (case hd => rfl); (case hg => rfl); (case hr => first | (go_simp; done) | (go_simp; rfl)); intro gb311 hg w5 hbox hb; have n0_ := Aside0.mk (ve_ HO0_1.out gb311 hg hb); have n1_ := Aside0.mk (ve_ HO0_2.out gb311 hg hb); have n2_ := Aside0.mk (bb_ BK310.out hb); have n3_ := Aside0.mk (bs_ hb); have n4_ := Aside0.mk (hbox); have n6_ := Aside0.mk ((ge_ hg : w.heap.size ≤ gb311)); have n7_ := Aside0.mk ((by rw [hg]; exact Nat.ne_of_lt (blk_lt (g := gb310) (o := .cells #[.int .i64 a0_0, .slice A0_1 l0_1.length c0_1, .slice A0_2 l0_2.length c0_2] 25 (0, 0)) (by (with_reducible repeat (first | refine blk_drewN ?_ _ | refine blk_drew ?_ | refine blk_alloc ?_ _)); exact BK310.out)) : gb310 ≠ gb311)); have n8_ := Aside0.mk ((by rw [hg]; exact Nat.ne_of_gt (blk_lt (g := gb310) (o := .cells #[.int .i64 a0_0, .slice A0_1 l0_1.length c0_1, .slice A0_2 l0_2.length c0_2] 25 (0, 0)) (by (with_reducible repeat (first | refine blk_drewN ?_ _ | refine blk_drew ?_ | refine blk_alloc ?_ _)); exact BK310.out)) : gb311 ≠ gb310)); clear HO0_1 HO0_2 BK310 HB; have HO0_1 := n0_; have HO0_2 := n1_; have BK310 := n2_; have HB := n3_; have BK311 := n4_; have GE311 := n6_; have NB310_311 := n7_; have NB311_310 := n8_; clear n0_ n1_ n2_ n3_ n4_ n6_ n7_ n8_; clear hb hbox hg) | ((with_reducible refine gate_dst (N := 5) rfl ?_); (try (refine gate_guard (by rfl) ?_; dsimp only)); refine box_event ?hg (N := 5) ?hd (cs := #[.int .u32 0, .slice none 0 0]) (t := 29) ?hr ?_; (case hd => rfl); (case hg => rfl); (case hr => first | (go_simp; done) | (go_simp; rfl)); intro gb312 hg w6 hbox hb; have n0_ := Aside0.mk (ve_ HO0_1.out gb312 hg hb); have n1_ := Aside0.mk (ve_ HO0_2.out gb312 hg hb); have n2_ := Aside0.mk (bb_ BK310.out hb); have n3_ := Aside0.mk (bb_ BK311.out hb); have n4_ := Aside0.mk (bs_ hb); have n5_ := Aside0.mk (hbox); have n7_ := Aside0.mk ((ge_ hg : w.heap.size ≤ gb312)); have n8_ := Aside0.mk ((by rw [hg]; exact Nat.ne_of_lt (blk_lt (g := gb310) (o := .cells #[.int .i64 a0_0, .slice A0_1 l0_1.length c0_1, .slice A0_2 l0_2.length c0_2] 25 (0, 0)) (by (with_reducible repeat (first | refine blk_drewN ?_ _ | refine blk_drew ?_ | refine blk_alloc ?_ _)); exact BK310.out)) : gb310 ≠ gb312)); have n9_ := Aside0.mk ((by rw [hg]; exact Nat.ne_of_gt (blk_lt (g := gb310) (o := .cells #[.int .i64 a0_0, .slice A0_1 l0_1.length c0_1, .slice A0_2 l0_2.length c0_2] 25 (0, 0)) (by (with_reducible repeat (first | refine blk_drewN ?_ _ | refine blk_drew ?_ | refine blk_alloc ?_ _)); exact BK310.out)) : gb312 ≠ gb310)); have n10_ := Aside0.mk ((by rw [hg]; exact Nat.ne_of_lt (blk_lt (g := gb311) (o := .cells #[.int .i64 0, .slice none 0 0, .slice none 0 0] 25 (0, 0)) (by (with_reducible repeat (first | refine blk_drewN ?_ _ | refine blk_drew ?_ | refine blk_alloc ?_ _)); exact BK311.out)) : gb311 ≠ gb312)); have n11_ := Aside0.mk ((by rw [hg]; exact Nat.ne_of_gt (blk_lt (g := gb311) (o := .cells #[.int .i64 0, .slice none 0 0, .slice none 0 0] 25 (0, 0)) (by (with_reducible repeat (first | refine blk_drewN ?_ _ | refine blk_drew ?_ | refine blk_alloc ?_ _)); exact BK311.out)) : gb312 ≠ gb311)); clear HO0_1 HO0_2 BK310 BK311 HB; have HO0_1 := n0_; have HO0_2 := n1_; have BK310 := n2_; have BK311 := n3_; have HB := n4_; have BK312 := n5_; have GE312 := n7_; have NB310_312 := n8_; have NB312_310 := n9_; have NB311_312 := n10_; have NB312_311 := n11_; clear n0_ n1_ n2_ n3_ n4_ n5_ n7_ n8_ n9_ n10_ n11_; clear hb hbox hg))
  (try simp only [Act.put, List.setIfInBounds_toArray, List.set_cons_zero, List.set_cons_succ])
  go_cut [18] (fun v18 wc => ∃ (kq : Nat) (x18_2 : Bool), v18 = .bool x18_2 ∧ Aside0 (chamberlainref06_Take.j0 kq a1 x18_2 a0_0 l0_1 l0_2 = some (r1, r2, r3, r4, r5, r6)) ∧ Aside0 (kq ≤ k) ∧ Aside0 (Kd.V k29 29 wc w.heap.size (fun k_ => ((P0_1_ k_ ∨ P0_2_ k_) ∨ w.heap.size ≤ k_) ∧ k_ ≠ gb310 ∧ k_ ≠ gb311 ∧ k_ ≠ gb312) (.slice A0_1 l0_1.length c0_1) l0_1) ∧ Aside0 (Kd.V (Kd.slice 26 (Kd.int .u32)) 27 wc w.heap.size (fun k_ => ((P0_1_ k_ ∨ P0_2_ k_) ∨ w.heap.size ≤ k_) ∧ k_ ≠ gb310 ∧ k_ ≠ gb311 ∧ k_ ≠ gb312) (.slice A0_2 l0_2.length c0_2) l0_2) ∧ Aside0 (wc.heap[gb310]? = some (.cells #[.int .i64 a0_0, (.slice A0_1 l0_1.length c0_1), (.slice A0_2 l0_2.length c0_2)] 25 (0, 0))) ∧ Aside0 (wc.heap[gb311]? = some (.cells #[.int .i64 0, (.slice none 0 0), (.slice none 0 0)] 25 (0, 0))) ∧ Aside0 (wc.heap[gb312]? = some (.cells #[.int .u32 0, (.slice none 0 0)] 29 (0, 0))) ∧ Aside0 (Below w.heap.size w wc))
  case first =>
    have H := HC3.out
    clear HC3
    by_cases c7 : a1 < 0
    · rw [if_pos c7] at H
      have c7b0 : decide (a1 < 0) = true := decide_eq_true c7
      clear c7
      (first | rw [c7b0] | (simp only [i64_w, i32_w]; rw [c7b0]) | skip)
      have H' := Aside0.mk H
      clear H
      go_wp2
      go_meet
      case rel => exact ⟨_, (true), (by first | rfl | (simp; done) | (simp [*]; done)), H', ⟨by first | omega | exact Nat.le_refl _⟩, ⟨by (with_reducible repeat (first | apply Kd.V_alloc | apply Kd.V_drewN | apply Kd.V_drew)); exact Kd.V_mono HO0_1.out (fun _ hk => ⟨hk.1.1.1, ⟨hk.1.1.2, ⟨hk.1.2, hk.2⟩⟩⟩)⟩, ⟨by (with_reducible repeat (first | apply Kd.V_alloc | apply Kd.V_drewN | apply Kd.V_drew)); exact Kd.V_mono HO0_2.out (fun _ hk => ⟨hk.1.1.1, ⟨hk.1.1.2, ⟨hk.1.2, hk.2⟩⟩⟩)⟩, ⟨by (with_reducible repeat (first | refine blk_drewN ?_ _ | refine blk_drew ?_ | refine blk_alloc ?_ _)); exact BK310.out⟩, ⟨by (with_reducible repeat (first | refine blk_drewN ?_ _ | refine blk_drew ?_ | refine blk_alloc ?_ _)); exact BK311.out⟩, ⟨by (with_reducible repeat (first | refine blk_drewN ?_ _ | refine blk_drew ?_ | refine blk_alloc ?_ _)); exact BK312.out⟩, ⟨by repeat (first | (with_reducible first | exact HB.out | apply below_alloc | apply pw_below_drewN | apply below_drew1 | refine below_set ?_ GE310.out | refine below_set ?_ GE311.out | refine below_set ?_ GE312.out) | exact HB.out)⟩⟩
    · rw [if_neg c7] at H
      have c7b0 : decide (a1 < 0) = false := decide_eq_false c7
      clear c7
      (first | rw [c7b0] | (simp only [i64_w, i32_w]; rw [c7b0]) | skip)
      have H' := Aside0.mk H
      clear H
      have hnb8 := NB310_311.out
      have hnc8 := NB311_310.out
      have hnb9 := NB310_312.out
      have hnc9 := NB312_310.out
      have ⟨hcz10_0, hcz10_1, hcz10_2⟩ := cz3_ BK310.out
      have ⟨hfz10_0, hfz10_1, hfz10_2⟩ := fz3_ BK310.out
      go_wp2
      go_meet
      case rel => exact ⟨_, (decide (a1 ≥ (l0_1.length : Int))), (by first | rfl | (simp; done) | (simp [*]; done)), H', ⟨by first | omega | exact Nat.le_refl _⟩, ⟨by (with_reducible repeat (first | apply Kd.V_alloc | apply Kd.V_drewN | apply Kd.V_drew)); exact Kd.V_mono HO0_1.out (fun _ hk => ⟨hk.1.1.1, ⟨hk.1.1.2, ⟨hk.1.2, hk.2⟩⟩⟩)⟩, ⟨by (with_reducible repeat (first | apply Kd.V_alloc | apply Kd.V_drewN | apply Kd.V_drew)); exact Kd.V_mono HO0_2.out (fun _ hk => ⟨hk.1.1.1, ⟨hk.1.1.2, ⟨hk.1.2, hk.2⟩⟩⟩)⟩, ⟨by (with_reducible repeat (first | refine blk_drewN ?_ _ | refine blk_drew ?_ | refine blk_alloc ?_ _)); exact BK310.out⟩, ⟨by (with_reducible repeat (first | refine blk_drewN ?_ _ | refine blk_drew ?_ | refine blk_alloc ?_ _)); exact BK311.out⟩, ⟨by (with_reducible repeat (first | refine blk_drewN ?_ _ | refine blk_drew ?_ | refine blk_alloc ?_ _)); exact BK312.out⟩, ⟨by repeat (first | (with_reducible first | exact HB.out | apply below_alloc | apply pw_below_drewN | apply below_drew1 | refine below_set ?_ GE310.out | refine below_set ?_ GE311.out | refine below_set ?_ GE312.out) | exact HB.out)⟩⟩
  case rest =>
    clear HC3
    try clear c1
    try clear p2
    try clear c7
    try clear c7b0
    try clear c8
    try clear c9
    try clear hcz10_0
    try clear hcz10_1
    try clear hcz10_2
    try clear hfz10_0
    try clear hfz10_1
    try clear hfz10_2
    obtain ⟨kq, x18_2, rfl, HA, HJ2, HO_311001, HO_311002, BK310, BK311, BK312, HB⟩ := hcut
    cases kq with
    | zero => exact absurd HA.out (by simp [chamberlainref06_Take.j0])
    | succ kj2 =>
      have H := HA.out
      clear HA
      simp only [chamberlainref06_Take.j0] at H
      by_cases c11 : x18_2 = true
      · subst c11
        have H1 : (some (a0_0, l0_1, l0_2, 0, ([] : List Int), 1)) = some (r1, r2, r3, r4, r5, r6) := by rw [if_pos rfl] at H; exact H
        clear H
        have H := H1
        clear H1
        simp only [Option.some.injEq, Prod.mk.injEq] at H
        obtain ⟨rfl, rfl, rfl, rfl, rfl, rfl⟩ := H
        have hnb12 := NB310_311.out
        have hnc12 := NB311_310.out
        have hnb13 := NB310_312.out
        have hnc13 := NB312_310.out
        have ⟨hcz14_0, hcz14_1, hcz14_2⟩ := cz3_ BK310.out
        have ⟨hfz14_0, hfz14_1, hfz14_2⟩ := fz3_ BK310.out
        have hnb15 := NB311_312.out
        have hnc15 := NB312_311.out
        have ⟨hcz16_0, hcz16_1, hcz16_2⟩ := cz3_ BK311.out
        have ⟨hfz16_0, hfz16_1, hfz16_2⟩ := fz3_ BK311.out
        have ⟨hcz17_0, hcz17_1⟩ := cz2_ BK312.out
        have ⟨hfz17_0, hfz17_1⟩ := fz2_ BK312.out
        go_wp2
        refine bodyPost_ret (results_list (rs := [.cell 4 25, .cell 5 29, .tmp 6]) rfl (by simp) (.cell gb311 25 #[.int .i64 a0_0, .slice A0_1 l0_1.length c0_1, .slice A0_2 l0_2.length c0_2] (0, 0) _ rfl (by (with_reducible repeat (first | refine blk_drewN ?_ _ | refine blk_drew ?_ | refine blk_alloc ?_ _)); refine blk_far ?_ NB311_312.out _; (with_reducible repeat (first | refine blk_drewN ?_ _ | refine blk_drew ?_ | refine blk_alloc ?_ _)); refine blk_far ?_ NB311_312.out _; (with_reducible repeat (first | refine blk_drewN ?_ _ | refine blk_drew ?_ | refine blk_alloc ?_ _)); refine blk_put (cs := #[.int .i64 a0_0, .slice A0_1 l0_1.length c0_1, .slice none 0 0]) ?_ 2 _ rfl; (with_reducible repeat (first | refine blk_drewN ?_ _ | refine blk_drew ?_ | refine blk_alloc ?_ _)); refine blk_put (cs := #[.int .i64 a0_0, .slice none 0 0, .slice none 0 0]) ?_ 1 _ rfl; (with_reducible repeat (first | refine blk_drewN ?_ _ | refine blk_drew ?_ | refine blk_alloc ?_ _)); refine blk_put (cs := #[.int .i64 0, .slice none 0 0, .slice none 0 0]) ?_ 0 _ rfl; (with_reducible repeat (first | refine blk_drewN ?_ _ | refine blk_drew ?_ | refine blk_alloc ?_ _)); exact BK311.out) Try.underlying25 rfl (by kernel_rfl) (.cell gb312 29 #[.int .u32 0, .slice none 0 0] (0, 0) _ rfl (by (with_reducible repeat (first | refine blk_drewN ?_ _ | refine blk_drew ?_ | refine blk_alloc ?_ _)); refine blk_put (cs := #[.int .u32 0, .slice none 0 0]) ?_ 1 _ rfl; (with_reducible repeat (first | refine blk_drewN ?_ _ | refine blk_drew ?_ | refine blk_alloc ?_ _)); refine blk_put (cs := #[.int .u32 0, .slice none 0 0]) ?_ 0 _ rfl; (with_reducible repeat (first | refine blk_drewN ?_ _ | refine blk_drew ?_ | refine blk_alloc ?_ _)); refine blk_far ?_ NB312_311.out _; (with_reducible repeat (first | refine blk_drewN ?_ _ | refine blk_drew ?_ | refine blk_alloc ?_ _)); refine blk_far ?_ NB312_311.out _; (with_reducible repeat (first | refine blk_drewN ?_ _ | refine blk_drew ?_ | refine blk_alloc ?_ _)); refine blk_far ?_ NB312_311.out _; (with_reducible repeat (first | refine blk_drewN ?_ _ | refine blk_drew ?_ | refine blk_alloc ?_ _)); exact BK312.out) Try.underlying29 rfl (by kernel_rfl) (.tmp .nil)))) rfl ?_
        exact ⟨_, _, _, by first | rfl | (simp [errW_none, errW_some] <;> rfl) | (simp [*, errW_none, errW_some] <;> rfl), by (with_reducible repeat (first | apply Kd.V_alloc | apply Kd.V_drewN | apply Kd.V_drew)); exact Kd.V_mono (v2_ (g := gb312) (Kd.V_far (p := ⟨gb311, 2, none⟩) (Kd.V_far (p := ⟨gb311, 1, none⟩) (Kd.V_far (p := ⟨gb311, 0, none⟩) (Kd.V_mono (Kd.V_mono HO_311001.out (fun k_ hk => (⟨hk, hk.2.2.1⟩ : _ ∧ k_ ≠ gb311))) (fun k_ hk => (⟨hk, hk.1.2.2.2⟩ : _ ∧ k_ ≠ gb312))) (fun _ hk => hk.1.2) (.int .i64 a0_0)) (fun _ hk => hk.1.2) (.slice A0_1 l0_1.length c0_1)) (fun _ hk => hk.1.2) (.slice A0_2 l0_2.length c0_2))) (fun _ hk => hk.1.1.1), by (with_reducible repeat (first | apply Kd.V_alloc | apply Kd.V_drewN | apply Kd.V_drew)); exact Kd.V_mono (v2_ (g := gb312) (Kd.V_far (p := ⟨gb311, 2, none⟩) (Kd.V_far (p := ⟨gb311, 1, none⟩) (Kd.V_far (p := ⟨gb311, 0, none⟩) (Kd.V_mono (Kd.V_mono HO_311002.out (fun k_ hk => (⟨hk, hk.2.2.1⟩ : _ ∧ k_ ≠ gb311))) (fun k_ hk => (⟨hk, hk.1.2.2.2⟩ : _ ∧ k_ ≠ gb312))) (fun _ hk => hk.1.2) (.int .i64 a0_0)) (fun _ hk => hk.1.2) (.slice A0_1 l0_1.length c0_1)) (fun _ hk => hk.1.2) (.slice A0_2 l0_2.length c0_2))) (fun _ hk => hk.1.1.1), (Kd.V_nil _ _ _ _ _), by repeat (first | (with_reducible first | exact HB.out | apply below_alloc | apply pw_below_drewN | apply below_drew1 | refine below_set ?_ GE310.out | refine below_set ?_ GE311.out | refine below_set ?_ GE312.out) | exact HB.out)⟩
      · replace c11 := Bool.eq_false_iff.mpr c11
        subst c11
        have H1 : (chamberlainref06_Take.l0 kj2 a1 ([] : List (S29)) 0 a0_0 l0_1 l0_2) = some (r1, r2, r3, r4, r5, r6) := by rw [if_neg (show ¬ (false = true) by decide)] at H; exact H
        clear H
        have H := H1
        clear H1
        have H' := Aside0.mk H
        clear H
        go_wp2
        go_loopg [7, 8] kj2 (fun kq v7 v8 w' => ∃ (x7_2 : List (S29)) (x8_2 : Int), v8 = .int .i64 x8_2 ∧ Aside0 (chamberlainref06_Take.l0 kq a1 x7_2 x8_2 a0_0 l0_1 l0_2 = some (r1, r2, r3, r4, r5, r6)) ∧ Aside0 (kq ≤ kj2) ∧ Aside0 (Kd.N k29 29 w' w.heap.size (fun k_ => ((P0_1_ k_ ∨ P0_2_ k_) ∨ w.heap.size ≤ k_) ∧ k_ ≠ gb310 ∧ k_ ≠ gb311 ∧ k_ ≠ gb312) v7 x7_2) ∧ Aside0 (Kd.V k29 29 w' w.heap.size (fun k_ => ((P0_1_ k_ ∨ P0_2_ k_) ∨ w.heap.size ≤ k_) ∧ some k_ ≠ (v7 : Value).ownBlock ∧ k_ ≠ gb310 ∧ k_ ≠ gb311 ∧ k_ ≠ gb312) (.slice A0_1 l0_1.length c0_1) l0_1) ∧ Aside0 (Kd.V (Kd.slice 26 (Kd.int .u32)) 27 w' w.heap.size (fun k_ => ((P0_1_ k_ ∨ P0_2_ k_) ∨ w.heap.size ≤ k_) ∧ some k_ ≠ (v7 : Value).ownBlock ∧ k_ ≠ gb310 ∧ k_ ≠ gb311 ∧ k_ ≠ gb312) (.slice A0_2 l0_2.length c0_2) l0_2) ∧ Aside0 (w'.heap[gb310]? = some (.cells #[.int .i64 a0_0, (.slice A0_1 l0_1.length c0_1), (.slice A0_2 l0_2.length c0_2)] 25 (0, 0))) ∧ Aside0 (w'.heap[gb311]? = some (.cells #[.int .i64 0, (.slice none 0 0), (.slice none 0 0)] 25 (0, 0))) ∧ Aside0 (w'.heap[gb312]? = some (.cells #[.int .u32 0, (.slice none 0 0)] 29 (0, 0))) ∧ Aside0 (Below w.heap.size w w'))
        case atStart => exact ⟨(([] : List (S29))), (0), (by first | rfl | (simp; done) | (simp [*]; done)), H', ⟨Nat.le_refl _⟩, ⟨by first | exact Kd.S_nil _ _ _ _ _ | exact Kd.N_nil _ _ _ _ _ | exact Kd.V_nil _ _ _ _ _ | exact Kd.Q_nil _ _ _ _ _ | exact Kd.R_nil _ _ _ _ _⟩, ⟨by (with_reducible repeat (first | apply Kd.V_alloc | apply Kd.V_drewN | apply Kd.V_drew)); exact Kd.V_mono HO_311001.out (fun _ hk => ⟨hk.1, ⟨(by simp [Value.ownBlock]), ⟨hk.2.1, ⟨hk.2.2.1, hk.2.2.2⟩⟩⟩⟩)⟩, ⟨by (with_reducible repeat (first | apply Kd.V_alloc | apply Kd.V_drewN | apply Kd.V_drew)); exact Kd.V_mono HO_311002.out (fun _ hk => ⟨hk.1, ⟨(by simp [Value.ownBlock]), ⟨hk.2.1, ⟨hk.2.2.1, hk.2.2.2⟩⟩⟩⟩)⟩, ⟨by (with_reducible repeat (first | refine blk_drewN ?_ _ | refine blk_drew ?_ | refine blk_alloc ?_ _)); exact BK310.out⟩, ⟨by (with_reducible repeat (first | refine blk_drewN ?_ _ | refine blk_drew ?_ | refine blk_alloc ?_ _)); exact BK311.out⟩, ⟨by (with_reducible repeat (first | refine blk_drewN ?_ _ | refine blk_drew ?_ | refine blk_alloc ?_ _)); exact BK312.out⟩, ⟨by repeat (first | (with_reducible first | exact HB.out | apply below_alloc | apply pw_below_drewN | apply below_drew1 | refine below_set ?_ GE310.out | refine below_set ?_ GE311.out | refine below_set ?_ GE312.out) | exact HB.out)⟩⟩
        case round =>
          clear H'
          try clear c1
          try clear p2
          try clear c7
          try clear c7b0
          try clear c8
          try clear c9
          try clear c11
          try clear c12
          try clear c13
          try clear c15
          try clear hcz10_0
          try clear hcz10_1
          try clear hcz10_2
          try clear hcz14_0
          try clear hcz14_1
          try clear hcz14_2
          try clear hcz16_0
          try clear hcz16_1
          try clear hcz16_2
          try clear hcz17_0
          try clear hcz17_1
          try clear hfz10_0
          try clear hfz10_1
          try clear hfz10_2
          try clear hfz14_0
          try clear hfz14_1
          try clear hfz14_2
          try clear hfz16_0
          try clear hfz16_1
          try clear hfz16_2
          try clear hfz17_0
          try clear hfz17_1
          try clear p2
          obtain ⟨x7_2, x8_2, rfl, HA, HK2, HO_7, HO_311001, HO_311002, BK310, BK311, BK312, HB⟩ := hrel
          cases gk with
          | zero => exact absurd HA.out (by simp [chamberlainref06_Take.l0])
          | succ k2 =>
            have H := HA.out
            clear HA
            simp only [chamberlainref06_Take.l0] at H
            by_cases c18 : x8_2 < (l0_1.length : Int)
            · rw [if_pos c18] at H
              have c18b0 : decide (x8_2 < (l0_1.length : Int)) = true := decide_eq_true c18
              clear c18
              by_cases c19 : x8_2 = a1
              · rw [if_pos c19] at H
                have c19b0 : (x8_2 == a1) = true := beq_iff_eq.mpr c19
                have c19b1 : (x8_2 != a1) = false := bne_eq_false_iff_eq.mpr c19
                clear c19
                have H' := Aside0.mk H
                clear H
                have hnb20 := NB310_311.out
                have hnc20 := NB311_310.out
                have hnb21 := NB310_312.out
                have hnc21 := NB312_310.out
                have ⟨hcz22_0, hcz22_1, hcz22_2⟩ := cz3_ BK310.out
                have ⟨hfz22_0, hfz22_1, hfz22_2⟩ := fz3_ BK310.out
                go_wp2
                go_roundg k2
                case measure => have := HJ2.out; have := HK2.out; omega
                case rel => exact ⟨(x7_2), (wrap64 (x8_2 + 1)), (by first | rfl | (simp; done) | (simp [*]; done)), H', ⟨by have := HJ2.out; have := HK2.out; omega⟩, ⟨by (with_reducible repeat (first | apply Kd.N_alloc | apply Kd.N_drewN | apply Kd.N_drew)); exact HO_7.out⟩, ⟨by (with_reducible repeat (first | apply Kd.V_alloc | apply Kd.V_drewN | apply Kd.V_drew)); exact HO_311001.out⟩, ⟨by (with_reducible repeat (first | apply Kd.V_alloc | apply Kd.V_drewN | apply Kd.V_drew)); exact HO_311002.out⟩, ⟨by (with_reducible repeat (first | refine blk_drewN ?_ _ | refine blk_drew ?_ | refine blk_alloc ?_ _)); exact BK310.out⟩, ⟨by (with_reducible repeat (first | refine blk_drewN ?_ _ | refine blk_drew ?_ | refine blk_alloc ?_ _)); exact BK311.out⟩, ⟨by (with_reducible repeat (first | refine blk_drewN ?_ _ | refine blk_drew ?_ | refine blk_alloc ?_ _)); exact BK312.out⟩, ⟨by repeat (first | (with_reducible first | exact HB.out | apply below_alloc | apply pw_below_drewN | apply below_drew1 | refine below_set ?_ GE310.out | refine below_set ?_ GE311.out | refine below_set ?_ GE312.out) | exact HB.out)⟩⟩
              · rw [if_neg c19] at H
                have c19b0 : (x8_2 == a1) = false := beq_eq_false_iff_ne.mpr c19
                have c19b1 : (x8_2 != a1) = true := bne_iff_ne.mpr c19
                by_cases c23 : 0 ≤ x8_2
                · rw [if_pos c23] at H
                  have c23b0 : decide (0 ≤ x8_2) = true := decide_eq_true c23
                  clear c23
                  by_cases c24 : x7_2.length < 4398046511104
                  · rw [if_pos c24] at H
                    have LMc24 := Aside0.mk c24
                    clear c24
                    obtain ⟨y314, hy314⟩ : ∃ y_ : List (S29), y_ = (x7_2 ++ [(⟨(rd_T29 l0_1 x8_2).f0, (rd_T29 l0_1 x8_2).f1⟩ : S29)]) := ⟨_, rfl⟩
                    replace H : (chamberlainref06_Take.l0 k2 a1 y314 (wrap64 (x8_2 + 1)) a0_0 l0_1 l0_2) = some (r1, r2, r3, r4, r5, r6) := by first | (rw [hy314]; with_reducible exact H) | (have H2_ := (Option.bind_some _ _).symm.trans H; rw [hy314]; with_reducible exact H2_) | (have H2_ := (Option.bind_some _ _).symm.trans H; with_reducible exact H2_) | with_reducible exact H | (rw [hy314]; exact H) | exact H
                    have Ny314 := Aside0.mk hy314
                    clear hy314
                    have H' := Aside0.mk H
                    clear H
                    have hnb25 := NB310_311.out
                    have hnc25 := NB311_310.out
                    have hnb26 := NB310_312.out
                    have hnc26 := NB312_310.out
                    have ⟨hcz27_0, hcz27_1, hcz27_2⟩ := cz3_ BK310.out
                    have ⟨hfz27_0, hfz27_1, hfz27_2⟩ := fz3_ BK310.out
                    have p313 : 0 ≤ (x8_2 : Int) := of_decide_eq_true (by first | (with_reducible assumption) | assumption)
                    have q313 : x8_2 < (l0_1.length : Int) := of_decide_eq_true (by first | (with_reducible assumption) | assumption)
                    obtain ⟨ad313, A313_1, c313_1, e313, hx313_0, hx313_1, hl313_1, hi313_1⟩ := at_T29 (Kd.V_reads' HO_311001.out).2.2 x8_2 p313 q313
                    cases e313
                    obtain ⟨ce313, hce313, hMe313, hcc313⟩ := Kd.V_get HO_311001.out z29 x8_2 p313 (by first | exact q313 | exact of_decide_eq_true (by first | (with_reducible assumption) | assumption) | (have e_ := (Kd.V_reads' HO_311001.out).1; omega))
                    obtain ⟨ua313_1, uc313_1, rfl, ul313_1, ge313_1⟩ := k29_openF hMe313
                    have hv313_1 := hcc313 1 _ rfl
                    rw [add_field _ _ 1 (by omega)] at hv313_1
                    replace hv313_1 := Option.some.inj (hv313_1.symm.trans hx313_1)
                    injection hv313_1 with hva_ hvn_ hvc_
                    rw [hva_] at ge313_1
                    rw [hvc_] at ul313_1
                    have HL313_1 := Aside0.mk (show Kd.V (Kd.int .u32) 26 _ w.heap.size _ _ ((rd_T29 l0_1 x8_2).f1) from Kd.V_mk ul313_1 ge313_1)
                    clear hva_ hvn_ hvc_ ge313_1 ul313_1
                    clear hcc313 hce313
                    have HR313_1 := Aside0.mk hi313_1
                    have HC313_1 := Aside0.mk hl313_1
                    clear hi313_1 hl313_1
                    replace p313 := eq_true p313
                    replace q313 := eq_true q313
                    go_wp2_with (first | ((with_reducible refine gate_builtin (b := .append) (xs := #[.tmp 31, .tmp 37]) rfl ?_); (try (refine gate_guard (by rfl) ?_; dsimp only)); at_builtin; refine Kd.N_append k29 (w0 := w) w.heap.size rfl (.tmp 31) (.tmp 37) 22 29 (.agg #[(.int .u32 0), (.slice none 0 0)]) 32 rfl Try.underlying22 info29 rfl (by decide) (by omega) u7 x7_2 (⟨(rd_T29 l0_1 x8_2).f0, (rd_T29 l0_1 x8_2).f1⟩ : S29) [.int .u32 ((rd_T29 l0_1 x8_2).f0), .slice A313_1 ((rd_T29 l0_1 x8_2).f1).length c313_1] (fun k_ => ((P0_1_ k_ ∨ P0_2_ k_) ∨ w.heap.size ≤ k_) ∧ k_ ≠ gb310 ∧ k_ ≠ gb311 ∧ k_ ≠ gb312) (fun k_ => ((fun k_ => ((P0_1_ k_ ∨ P0_2_ k_) ∨ w.heap.size ≤ k_) ∧ k_ ≠ gb310 ∧ k_ ≠ gb311 ∧ k_ ≠ gb312)) k_ ∧ some k_ ≠ (u7 : Value).ownBlock) rfl rfl ?aP (fun _ hk => hk) ?aF ?aO ?aB ?aS ?aL ?_; (case aP => exact (k29_mkF _ _ (⟨(rd_T29 l0_1 x8_2).f0, (rd_T29 l0_1 x8_2).f1⟩ : S29) (Kd.V_reads' (Kd.V_mono (ok' := (fun k_ => ((fun k_ => ((P0_1_ k_ ∨ P0_2_ k_) ∨ w.heap.size ≤ k_) ∧ k_ ≠ gb310 ∧ k_ ≠ gb311 ∧ k_ ≠ gb312)) k_ ∧ some k_ ≠ (u7 : Value).ownBlock)) (HL313_1.out) (fun k_ hk => ⟨⟨hk.1, ⟨hk.2.2.1, ⟨hk.2.2.2.1, hk.2.2.2.2⟩⟩⟩, hk.2.1⟩))).2.1 (Kd.V_F (Kd.V_mono (ok' := (fun k_ => ((fun k_ => ((P0_1_ k_ ∨ P0_2_ k_) ∨ w.heap.size ≤ k_) ∧ k_ ≠ gb310 ∧ k_ ≠ gb311 ∧ k_ ≠ gb312)) k_ ∧ some k_ ≠ (u7 : Value).ownBlock)) (HL313_1.out) (fun k_ hk => ⟨⟨hk.1, ⟨hk.2.2.1, ⟨hk.2.2.2.1, hk.2.2.2.2⟩⟩⟩, hk.2.1⟩))))); (case aB => exact (by repeat (first | (with_reducible first | exact HB.out | apply below_alloc | apply pw_below_drewN | apply below_drew1 | refine below_set ?_ GE310.out | refine below_set ?_ GE311.out | refine below_set ?_ GE312.out) | exact HB.out))); (case aF => exact (fun k_ hk => ⟨(.inr (Nat.le_trans (below_size (by repeat (first | (with_reducible first | exact HB.out | apply below_alloc | apply pw_below_drewN | apply below_drew1 | refine below_set ?_ GE310.out | refine below_set ?_ GE311.out | refine below_set ?_ GE312.out) | exact HB.out))) hk)), fb_ BK310.out k_ hk, fb_ BK311.out k_ hk, fb_ BK312.out k_ hk⟩)); (case aO => exact (by (with_reducible repeat (first | apply Kd.N_alloc | apply Kd.N_drewN | apply Kd.N_drew)); exact HO_7.out)); (case aS => exact (below_size (by repeat (first | (with_reducible first | exact HB.out | apply below_alloc | apply pw_below_drewN | apply below_drew1 | refine below_set ?_ GE310.out | refine below_set ?_ GE311.out | refine below_set ?_ GE312.out) | exact HB.out)))); (case aL => have := LMc24.out; omega); intro v315 w28 ho hb hg hat; rw [← Ny314.out] at ho; have n0_ := Aside0.mk (Kd.V_afterv (ok := (fun k_ => ((P0_1_ k_ ∨ P0_2_ k_) ∨ w.heap.size ≤ k_) ∧ k_ ≠ gb310 ∧ k_ ≠ gb311 ∧ k_ ≠ gb312)) (by (with_reducible repeat (first | apply Kd.V_alloc | apply Kd.V_drewN | apply Kd.V_drew)); exact Kd.V_mono HO_311001.out (fun _ hk => ⟨⟨hk.1, ⟨hk.2.2.1, ⟨hk.2.2.2.1, hk.2.2.2.2⟩⟩⟩, hk.2.1⟩)) hg hat); have n1_ := Aside0.mk (Kd.V_afterv (ok := (fun k_ => ((P0_1_ k_ ∨ P0_2_ k_) ∨ w.heap.size ≤ k_) ∧ k_ ≠ gb310 ∧ k_ ≠ gb311 ∧ k_ ≠ gb312)) (by (with_reducible repeat (first | apply Kd.V_alloc | apply Kd.V_drewN | apply Kd.V_drew)); exact Kd.V_mono HO_311002.out (fun _ hk => ⟨⟨hk.1, ⟨hk.2.2.1, ⟨hk.2.2.2.1, hk.2.2.2.2⟩⟩⟩, hk.2.1⟩)) hg hat); have n2_ := Aside0.mk (blk_grown (g := gb310) (o := .cells #[.int .i64 a0_0, .slice (some ad313) l0_1.length c0_1, .slice A0_2 l0_2.length c0_2] 25 (0, 0)) (by (with_reducible repeat (first | refine blk_drewN ?_ _ | refine blk_drew ?_ | refine blk_alloc ?_ _)); exact BK310.out) hg (Kd.N_ne HO_7.out BK310.out (by decide))); have n3_ := Aside0.mk (blk_grown (g := gb311) (o := .cells #[.int .i64 0, .slice none 0 0, .slice none 0 0] 25 (0, 0)) (by (with_reducible repeat (first | refine blk_drewN ?_ _ | refine blk_drew ?_ | refine blk_alloc ?_ _)); exact BK311.out) hg (Kd.N_ne HO_7.out BK311.out (by decide))); have n4_ := Aside0.mk (blk_grown (g := gb312) (o := .cells #[.int .u32 0, .slice none 0 0] 29 (0, 0)) (by (with_reducible repeat (first | refine blk_drewN ?_ _ | refine blk_drew ?_ | refine blk_alloc ?_ _)); exact BK312.out) hg (Kd.N_away HO_7.out (fun _ hk => hk.2.2.2))); have n6_ := Aside0.mk (hb); have n7_ := Aside0.mk (ho); clear HO_311001 HO_311002 BK310 BK311 BK312 HL313_1 HB HO_7; have HO_311001 := n0_; have HO_311002 := n1_; have BK310 := n2_; have BK311 := n3_; have BK312 := n4_; have HB := n6_; have HO316 := n7_; clear n0_ n1_ n2_ n3_ n4_ n6_ n7_; clear ho hb hg hat))
                    go_roundg k2
                    case measure => have := HJ2.out; have := HK2.out; omega
                    case rel => exact ⟨(y314), (wrap64 (x8_2 + 1)), (by first | rfl | (simp; done) | (simp [*]; done)), H', ⟨by have := HJ2.out; have := HK2.out; omega⟩, ⟨by (with_reducible repeat (first | apply Kd.N_alloc | apply Kd.N_drewN | apply Kd.N_drew)); exact HO316.out⟩, ⟨by (with_reducible repeat (first | apply Kd.V_alloc | apply Kd.V_drewN | apply Kd.V_drew)); exact Kd.V_mono HO_311001.out (fun _ hk => ⟨hk.1.1, ⟨hk.2, ⟨hk.1.2.1, ⟨hk.1.2.2.1, hk.1.2.2.2⟩⟩⟩⟩)⟩, ⟨by (with_reducible repeat (first | apply Kd.V_alloc | apply Kd.V_drewN | apply Kd.V_drew)); exact Kd.V_mono HO_311002.out (fun _ hk => ⟨hk.1.1, ⟨hk.2, ⟨hk.1.2.1, ⟨hk.1.2.2.1, hk.1.2.2.2⟩⟩⟩⟩)⟩, ⟨by (with_reducible repeat (first | refine blk_drewN ?_ _ | refine blk_drew ?_ | refine blk_alloc ?_ _)); exact BK310.out⟩, ⟨by (with_reducible repeat (first | refine blk_drewN ?_ _ | refine blk_drew ?_ | refine blk_alloc ?_ _)); exact BK311.out⟩, ⟨by (with_reducible repeat (first | refine blk_drewN ?_ _ | refine blk_drew ?_ | refine blk_alloc ?_ _)); exact BK312.out⟩, ⟨by repeat (first | (with_reducible first | exact HB.out | apply below_alloc | apply pw_below_drewN | apply below_drew1 | refine below_set ?_ GE310.out | refine below_set ?_ GE311.out | refine below_set ?_ GE312.out) | exact HB.out)⟩⟩
                  · rw [if_neg c24] at H
                    exact absurd H (by simp)
                · rw [if_neg c23] at H
                  exact absurd H (by simp)
            · rw [if_neg c18] at H
              have c18b0 : decide (x8_2 < (l0_1.length : Int)) = false := decide_eq_false c18
              clear c18
              by_cases c29 : 0 ≤ a1
              · rw [if_pos c29] at H
                have c29b0 : decide (0 ≤ a1) = true := decide_eq_true c29
                clear c29
                by_cases c30 : a1 < (l0_1.length : Int)
                · rw [if_pos c30] at H
                  have c30b0 : decide (a1 < (l0_1.length : Int)) = true := decide_eq_true c30
                  clear c30
                  simp only [Option.some.injEq, Prod.mk.injEq] at H
                  obtain ⟨rfl, rfl, rfl, rfl, rfl, rfl⟩ := H
                  have hnb31 := NB310_311.out
                  have hnc31 := NB311_310.out
                  have hnb32 := NB310_312.out
                  have hnc32 := NB312_310.out
                  have ⟨hcz33_0, hcz33_1, hcz33_2⟩ := cz3_ BK310.out
                  have ⟨hfz33_0, hfz33_1, hfz33_2⟩ := fz3_ BK310.out
                  have p317 : 0 ≤ (a1 : Int) := of_decide_eq_true (by first | (with_reducible assumption) | assumption)
                  have q317 : a1 < (l0_1.length : Int) := of_decide_eq_true (by first | (with_reducible assumption) | assumption)
                  obtain ⟨ad317, A317_1, c317_1, e317, hx317_0, hx317_1, hl317_1, hi317_1⟩ := at_T29 (Kd.V_reads' HO_311001.out).2.2 a1 p317 q317
                  cases e317
                  obtain ⟨ce317, hce317, hMe317, hcc317⟩ := Kd.V_get HO_311001.out z29 a1 p317 (by first | exact q317 | exact of_decide_eq_true (by first | (with_reducible assumption) | assumption) | (have e_ := (Kd.V_reads' HO_311001.out).1; omega))
                  obtain ⟨ua317_1, uc317_1, rfl, ul317_1, ge317_1⟩ := k29_openF hMe317
                  have hv317_1 := hcc317 1 _ rfl
                  rw [add_field _ _ 1 (by omega)] at hv317_1
                  replace hv317_1 := Option.some.inj (hv317_1.symm.trans hx317_1)
                  injection hv317_1 with hva_ hvn_ hvc_
                  rw [hva_] at ge317_1
                  rw [hvc_] at ul317_1
                  have HL317_1 := Aside0.mk (show Kd.V (Kd.int .u32) 26 _ w.heap.size _ _ ((rd_T29 l0_1 a1).f1) from Kd.V_mk ul317_1 ge317_1)
                  clear hva_ hvn_ hvc_ ge317_1 ul317_1
                  clear hcc317 hce317
                  have HR317_1 := Aside0.mk hi317_1
                  have HC317_1 := Aside0.mk hl317_1
                  clear hi317_1 hl317_1
                  replace p317 := eq_true p317
                  replace q317 := eq_true q317
                  try go_wp2_with (first | ((with_reducible refine gate_dst (N := 9) rfl ?_); (try (refine gate_guard (by rfl) ?_; dsimp only)); refine box_event ?hg (N := 9) ?hd (cs := #[.int .u32 0, .slice none 0 0]) (t := 29) ?hr ?_; (case hd => rfl); (case hg => rfl); (case hr => first | (go_simp; done) | (go_simp; rfl)); intro gb318 hg w34 hbox hb; have n0_ := Aside0.mk (ne_ HO_7.out gb318 hg hb); have n1_ := Aside0.mk (ve_ HO_311001.out gb318 hg hb); have n2_ := Aside0.mk (ve_ HO_311002.out gb318 hg hb); have n3_ := Aside0.mk (ve_ HL317_1.out gb318 hg hb); have n4_ := Aside0.mk (bb_ BK310.out hb); have n5_ := Aside0.mk (bb_ BK311.out hb); have n6_ := Aside0.mk (bb_ BK312.out hb); have n8_ := Aside0.mk (bs_ hb); have n9_ := Aside0.mk (hbox); have n11_ := Aside0.mk ((ge_ hg : w.heap.size ≤ gb318)); have n12_ := Aside0.mk ((by rw [hg]; exact Nat.ne_of_lt (blk_lt (g := gb310) (o := .cells #[.int .i64 a0_0, .slice (some ad317) l0_1.length c0_1, .slice A0_2 l0_2.length c0_2] 25 (0, 0)) (by (with_reducible repeat (first | refine blk_drewN ?_ _ | refine blk_drew ?_ | refine blk_alloc ?_ _)); exact BK310.out)) : gb310 ≠ gb318)); have n13_ := Aside0.mk ((by rw [hg]; exact Nat.ne_of_gt (blk_lt (g := gb310) (o := .cells #[.int .i64 a0_0, .slice (some ad317) l0_1.length c0_1, .slice A0_2 l0_2.length c0_2] 25 (0, 0)) (by (with_reducible repeat (first | refine blk_drewN ?_ _ | refine blk_drew ?_ | refine blk_alloc ?_ _)); exact BK310.out)) : gb318 ≠ gb310)); have n14_ := Aside0.mk ((by rw [hg]; exact Nat.ne_of_lt (blk_lt (g := gb311) (o := .cells #[.int .i64 0, .slice none 0 0, .slice none 0 0] 25 (0, 0)) (by (with_reducible repeat (first | refine blk_drewN ?_ _ | refine blk_drew ?_ | refine blk_alloc ?_ _)); exact BK311.out)) : gb311 ≠ gb318)); have n15_ := Aside0.mk ((by rw [hg]; exact Nat.ne_of_gt (blk_lt (g := gb311) (o := .cells #[.int .i64 0, .slice none 0 0, .slice none 0 0] 25 (0, 0)) (by (with_reducible repeat (first | refine blk_drewN ?_ _ | refine blk_drew ?_ | refine blk_alloc ?_ _)); exact BK311.out)) : gb318 ≠ gb311)); have n16_ := Aside0.mk ((by rw [hg]; exact Nat.ne_of_lt (blk_lt (g := gb312) (o := .cells #[.int .u32 0, .slice none 0 0] 29 (0, 0)) (by (with_reducible repeat (first | refine blk_drewN ?_ _ | refine blk_drew ?_ | refine blk_alloc ?_ _)); exact BK312.out)) : gb312 ≠ gb318)); have n17_ := Aside0.mk ((by rw [hg]; exact Nat.ne_of_gt (blk_lt (g := gb312) (o := .cells #[.int .u32 0, .slice none 0 0] 29 (0, 0)) (by (with_reducible repeat (first | refine blk_drewN ?_ _ | refine blk_drew ?_ | refine blk_alloc ?_ _)); exact BK312.out)) : gb318 ≠ gb312)); clear HO_7 HO_311001 HO_311002 HL317_1 BK310 BK311 BK312 HR317_1 HB; have HO_7 := n0_; have HO_311001 := n1_; have HO_311002 := n2_; have HL317_1 := n3_; have BK310 := n4_; have BK311 := n5_; have BK312 := n6_; have HB := n8_; have BK318 := n9_; have GE318 := n11_; have NB310_318 := n12_; have NB318_310 := n13_; have NB311_318 := n14_; have NB318_311 := n15_; have NB312_318 := n16_; have NB318_312 := n17_; clear n0_ n1_ n2_ n3_ n4_ n5_ n6_ n8_ n9_ n11_ n12_ n13_ n14_ n15_ n16_ n17_; clear hb hbox hg; have hnb35 := NB318_310.out; have hnc35 := NB310_318.out; have hnb36 := NB318_311.out; have hnc36 := NB311_318.out; have hnb37 := NB318_312.out; have hnc37 := NB312_318.out; have ⟨hcz38_0, hcz38_1⟩ := cz2_ BK318.out; have ⟨hfz38_0, hfz38_1⟩ := fz2_ BK318.out; obtain ⟨Ao39, co39, eo39⟩ := Kd.N_slice HO_7.out; subst eo39; have ⟨hcz40_0, hcz40_1, hcz40_2⟩ := cz3_ BK310.out; have ⟨hfz40_0, hfz40_1, hfz40_2⟩ := fz3_ BK310.out))
                  have n0_ : Aside0 (Kd.N k29 29 (((w34.setCell ⟨gb318, 0, none⟩ (.int .u32 ((rd_T29 l0_1 a1).f0))).setCell ⟨gb318, 1, none⟩ (.slice A317_1 ((rd_T29 l0_1 a1).f1).length c317_1)).setCell ⟨gb310, 1, none⟩ (.slice Ao39 x7_2.length co39)) w.heap.size (fun k_ => ((P0_1_ k_ ∨ P0_2_ k_) ∨ w.heap.size ≤ k_) ∧ k_ ≠ gb310 ∧ k_ ≠ gb311 ∧ k_ ≠ gb312 ∧ k_ ≠ gb318) (.slice Ao39 x7_2.length co39) x7_2) := ⟨by (with_reducible repeat (first | apply Kd.N_alloc | apply Kd.N_drewN | apply Kd.N_drew)); exact Kd.N_mono (Kd.N_far (p := ⟨gb310, 1, none⟩) (Kd.N_far (p := ⟨gb318, 1, none⟩) (Kd.N_far (p := ⟨gb318, 0, none⟩) (Kd.N_mono (Kd.N_mono HO_7.out (fun k_ hk => (⟨hk, hk.2⟩ : _ ∧ k_ ≠ gb318))) (fun k_ hk => (⟨hk, hk.1.1.2.1⟩ : _ ∧ k_ ≠ gb310))) (fun _ hk => hk.1.2) (.int .u32 ((rd_T29 l0_1 a1).f0))) (fun _ hk => hk.1.2) (.slice A317_1 ((rd_T29 l0_1 a1).f1).length c317_1)) (fun _ hk => hk.2) (.slice Ao39 x7_2.length co39)) (fun _ hk => ⟨hk.1.1.1.1, ⟨hk.1.1.1.2.1, ⟨hk.1.1.1.2.2.1, ⟨hk.1.1.1.2.2.2, hk.1.1.2⟩⟩⟩⟩)⟩
                  have n1_ : Aside0 (Kd.V k29 29 (((w34.setCell ⟨gb318, 0, none⟩ (.int .u32 ((rd_T29 l0_1 a1).f0))).setCell ⟨gb318, 1, none⟩ (.slice A317_1 ((rd_T29 l0_1 a1).f1).length c317_1)).setCell ⟨gb310, 1, none⟩ (.slice Ao39 x7_2.length co39)) w.heap.size (fun k_ => ((P0_1_ k_ ∨ P0_2_ k_) ∨ w.heap.size ≤ k_) ∧ some k_ ≠ (.slice Ao39 x7_2.length co39 : Value).ownBlock ∧ k_ ≠ gb310 ∧ k_ ≠ gb311 ∧ k_ ≠ gb312 ∧ k_ ≠ gb318) (.slice (some ad317) l0_1.length c0_1) l0_1) := ⟨by (with_reducible repeat (first | apply Kd.V_alloc | apply Kd.V_drewN | apply Kd.V_drew)); exact Kd.V_mono (Kd.V_far (p := ⟨gb310, 1, none⟩) (Kd.V_far (p := ⟨gb318, 1, none⟩) (Kd.V_far (p := ⟨gb318, 0, none⟩) (Kd.V_mono (Kd.V_mono HO_311001.out (fun k_ hk => (⟨hk, hk.2⟩ : _ ∧ k_ ≠ gb318))) (fun k_ hk => (⟨hk, hk.1.1.2.2.1⟩ : _ ∧ k_ ≠ gb310))) (fun _ hk => hk.1.2) (.int .u32 ((rd_T29 l0_1 a1).f0))) (fun _ hk => hk.1.2) (.slice A317_1 ((rd_T29 l0_1 a1).f1).length c317_1)) (fun _ hk => hk.2) (.slice Ao39 x7_2.length co39)) (fun _ hk => ⟨hk.1.1.1.1, ⟨hk.1.1.1.2.1, ⟨hk.1.1.1.2.2.1, ⟨hk.1.1.1.2.2.2.1, ⟨hk.1.1.1.2.2.2.2, hk.1.1.2⟩⟩⟩⟩⟩)⟩
                  have n2_ : Aside0 (Kd.V (Kd.slice 26 (Kd.int .u32)) 27 (((w34.setCell ⟨gb318, 0, none⟩ (.int .u32 ((rd_T29 l0_1 a1).f0))).setCell ⟨gb318, 1, none⟩ (.slice A317_1 ((rd_T29 l0_1 a1).f1).length c317_1)).setCell ⟨gb310, 1, none⟩ (.slice Ao39 x7_2.length co39)) w.heap.size (fun k_ => ((P0_1_ k_ ∨ P0_2_ k_) ∨ w.heap.size ≤ k_) ∧ some k_ ≠ (.slice Ao39 x7_2.length co39 : Value).ownBlock ∧ k_ ≠ gb310 ∧ k_ ≠ gb311 ∧ k_ ≠ gb312 ∧ k_ ≠ gb318) (.slice A0_2 l0_2.length c0_2) l0_2) := ⟨by (with_reducible repeat (first | apply Kd.V_alloc | apply Kd.V_drewN | apply Kd.V_drew)); exact Kd.V_mono (Kd.V_far (p := ⟨gb310, 1, none⟩) (Kd.V_far (p := ⟨gb318, 1, none⟩) (Kd.V_far (p := ⟨gb318, 0, none⟩) (Kd.V_mono (Kd.V_mono HO_311002.out (fun k_ hk => (⟨hk, hk.2⟩ : _ ∧ k_ ≠ gb318))) (fun k_ hk => (⟨hk, hk.1.1.2.2.1⟩ : _ ∧ k_ ≠ gb310))) (fun _ hk => hk.1.2) (.int .u32 ((rd_T29 l0_1 a1).f0))) (fun _ hk => hk.1.2) (.slice A317_1 ((rd_T29 l0_1 a1).f1).length c317_1)) (fun _ hk => hk.2) (.slice Ao39 x7_2.length co39)) (fun _ hk => ⟨hk.1.1.1.1, ⟨hk.1.1.1.2.1, ⟨hk.1.1.1.2.2.1, ⟨hk.1.1.1.2.2.2.1, ⟨hk.1.1.1.2.2.2.2, hk.1.1.2⟩⟩⟩⟩⟩)⟩
                  have n3_ : Aside0 (Kd.V (Kd.int .u32) 26 (((w34.setCell ⟨gb318, 0, none⟩ (.int .u32 ((rd_T29 l0_1 a1).f0))).setCell ⟨gb318, 1, none⟩ (.slice A317_1 ((rd_T29 l0_1 a1).f1).length c317_1)).setCell ⟨gb310, 1, none⟩ (.slice Ao39 x7_2.length co39)) w.heap.size (fun k_ => ((P0_1_ k_ ∨ P0_2_ k_) ∨ w.heap.size ≤ k_) ∧ some k_ ≠ (.slice Ao39 x7_2.length co39 : Value).ownBlock ∧ k_ ≠ gb310 ∧ k_ ≠ gb311 ∧ k_ ≠ gb312 ∧ k_ ≠ gb318) (.slice A317_1 ((rd_T29 l0_1 a1).f1).length c317_1) ((rd_T29 l0_1 a1).f1)) := ⟨by (with_reducible repeat (first | apply Kd.V_alloc | apply Kd.V_drewN | apply Kd.V_drew)); exact Kd.V_mono (Kd.V_far (p := ⟨gb310, 1, none⟩) (Kd.V_far (p := ⟨gb318, 1, none⟩) (Kd.V_far (p := ⟨gb318, 0, none⟩) (Kd.V_mono (Kd.V_mono HL317_1.out (fun k_ hk => (⟨hk, hk.2⟩ : _ ∧ k_ ≠ gb318))) (fun k_ hk => (⟨hk, hk.1.1.2.2.1⟩ : _ ∧ k_ ≠ gb310))) (fun _ hk => hk.1.2) (.int .u32 ((rd_T29 l0_1 a1).f0))) (fun _ hk => hk.1.2) (.slice A317_1 ((rd_T29 l0_1 a1).f1).length c317_1)) (fun _ hk => hk.2) (.slice Ao39 x7_2.length co39)) (fun _ hk => ⟨hk.1.1.1.1, ⟨hk.1.1.1.2.1, ⟨hk.1.1.1.2.2.1, ⟨hk.1.1.1.2.2.2.1, ⟨hk.1.1.1.2.2.2.2, hk.1.1.2⟩⟩⟩⟩⟩)⟩
                  have n4_ : Aside0 ((((w34.setCell ⟨gb318, 0, none⟩ (.int .u32 ((rd_T29 l0_1 a1).f0))).setCell ⟨gb318, 1, none⟩ (.slice A317_1 ((rd_T29 l0_1 a1).f1).length c317_1)).setCell ⟨gb310, 1, none⟩ (.slice Ao39 x7_2.length co39)).heap[gb310]? = some (.cells #[.int .i64 a0_0, .slice Ao39 x7_2.length co39, .slice A0_2 l0_2.length c0_2] 25 (0, 0))) := ⟨by (with_reducible repeat (first | refine blk_drewN ?_ _ | refine blk_drew ?_ | refine blk_alloc ?_ _)); refine blk_put (cs := #[.int .i64 a0_0, .slice (some ad317) l0_1.length c0_1, .slice A0_2 l0_2.length c0_2]) ?_ 1 _ rfl; (with_reducible repeat (first | refine blk_drewN ?_ _ | refine blk_drew ?_ | refine blk_alloc ?_ _)); refine blk_far ?_ NB310_318.out _; (with_reducible repeat (first | refine blk_drewN ?_ _ | refine blk_drew ?_ | refine blk_alloc ?_ _)); refine blk_far ?_ NB310_318.out _; (with_reducible repeat (first | refine blk_drewN ?_ _ | refine blk_drew ?_ | refine blk_alloc ?_ _)); exact BK310.out⟩
                  have n5_ : Aside0 ((((w34.setCell ⟨gb318, 0, none⟩ (.int .u32 ((rd_T29 l0_1 a1).f0))).setCell ⟨gb318, 1, none⟩ (.slice A317_1 ((rd_T29 l0_1 a1).f1).length c317_1)).setCell ⟨gb310, 1, none⟩ (.slice Ao39 x7_2.length co39)).heap[gb311]? = some (.cells #[.int .i64 0, .slice none 0 0, .slice none 0 0] 25 (0, 0))) := ⟨by (with_reducible repeat (first | refine blk_drewN ?_ _ | refine blk_drew ?_ | refine blk_alloc ?_ _)); refine blk_far ?_ NB311_310.out _; (with_reducible repeat (first | refine blk_drewN ?_ _ | refine blk_drew ?_ | refine blk_alloc ?_ _)); refine blk_far ?_ NB311_318.out _; (with_reducible repeat (first | refine blk_drewN ?_ _ | refine blk_drew ?_ | refine blk_alloc ?_ _)); refine blk_far ?_ NB311_318.out _; (with_reducible repeat (first | refine blk_drewN ?_ _ | refine blk_drew ?_ | refine blk_alloc ?_ _)); exact BK311.out⟩
                  have n6_ : Aside0 ((((w34.setCell ⟨gb318, 0, none⟩ (.int .u32 ((rd_T29 l0_1 a1).f0))).setCell ⟨gb318, 1, none⟩ (.slice A317_1 ((rd_T29 l0_1 a1).f1).length c317_1)).setCell ⟨gb310, 1, none⟩ (.slice Ao39 x7_2.length co39)).heap[gb312]? = some (.cells #[.int .u32 0, .slice none 0 0] 29 (0, 0))) := ⟨by (with_reducible repeat (first | refine blk_drewN ?_ _ | refine blk_drew ?_ | refine blk_alloc ?_ _)); refine blk_far ?_ NB312_310.out _; (with_reducible repeat (first | refine blk_drewN ?_ _ | refine blk_drew ?_ | refine blk_alloc ?_ _)); refine blk_far ?_ NB312_318.out _; (with_reducible repeat (first | refine blk_drewN ?_ _ | refine blk_drew ?_ | refine blk_alloc ?_ _)); refine blk_far ?_ NB312_318.out _; (with_reducible repeat (first | refine blk_drewN ?_ _ | refine blk_drew ?_ | refine blk_alloc ?_ _)); exact BK312.out⟩
                  have n7_ : Aside0 ((((w34.setCell ⟨gb318, 0, none⟩ (.int .u32 ((rd_T29 l0_1 a1).f0))).setCell ⟨gb318, 1, none⟩ (.slice A317_1 ((rd_T29 l0_1 a1).f1).length c317_1)).setCell ⟨gb310, 1, none⟩ (.slice Ao39 x7_2.length co39)).heap[gb318]? = some (.cells #[.int .u32 ((rd_T29 l0_1 a1).f0), .slice A317_1 ((rd_T29 l0_1 a1).f1).length c317_1] 29 (0, 0))) := ⟨by (with_reducible repeat (first | refine blk_drewN ?_ _ | refine blk_drew ?_ | refine blk_alloc ?_ _)); refine blk_far ?_ NB318_310.out _; (with_reducible repeat (first | refine blk_drewN ?_ _ | refine blk_drew ?_ | refine blk_alloc ?_ _)); refine blk_put (cs := #[.int .u32 ((rd_T29 l0_1 a1).f0), .slice none 0 0]) ?_ 1 _ rfl; (with_reducible repeat (first | refine blk_drewN ?_ _ | refine blk_drew ?_ | refine blk_alloc ?_ _)); refine blk_put (cs := #[.int .u32 0, .slice none 0 0]) ?_ 0 _ rfl; (with_reducible repeat (first | refine blk_drewN ?_ _ | refine blk_drew ?_ | refine blk_alloc ?_ _)); exact BK318.out⟩
                  have n8_ : Aside0 (Below w.heap.size w (((w34.setCell ⟨gb318, 0, none⟩ (.int .u32 ((rd_T29 l0_1 a1).f0))).setCell ⟨gb318, 1, none⟩ (.slice A317_1 ((rd_T29 l0_1 a1).f1).length c317_1)).setCell ⟨gb310, 1, none⟩ (.slice Ao39 x7_2.length co39))) := ⟨by repeat (first | (with_reducible first | exact HB.out | apply below_alloc | apply pw_below_drewN | apply below_drew1 | refine below_set ?_ GE310.out | refine below_set ?_ GE311.out | refine below_set ?_ GE312.out | refine below_set ?_ GE318.out) | exact HB.out)⟩
                  (try clear HO_7)
                  (try clear HO_311001)
                  (try clear HO_311002)
                  (try clear HL317_1)
                  (try clear BK310)
                  (try clear BK311)
                  (try clear BK312)
                  (try clear BK318)
                  (try clear HB)
                  generalize (((w34.setCell ⟨gb318, 0, none⟩ (.int .u32 ((rd_T29 l0_1 a1).f0))).setCell ⟨gb318, 1, none⟩ (.slice A317_1 ((rd_T29 l0_1 a1).f1).length c317_1)).setCell ⟨gb310, 1, none⟩ (.slice Ao39 x7_2.length co39)) = w41 at n0_ n1_ n2_ n3_ n4_ n5_ n6_ n7_ n8_ ⊢
                  have HO_7 := n0_
                  have HO_311001 := n1_
                  have HO_311002 := n2_
                  have HL317_1 := n3_
                  have BK310 := n4_
                  have BK311 := n5_
                  have BK312 := n6_
                  have BK318 := n7_
                  have HB := n8_
                  clear n0_ n1_ n2_ n3_ n4_ n5_ n6_ n7_ n8_
                  have n0_ := Aside0.mk (Kd.N_drew HO_7.out)
                  have n1_ := Aside0.mk (Kd.V_drew HO_311001.out)
                  have n2_ := Aside0.mk (Kd.V_drew HO_311002.out)
                  have n3_ := Aside0.mk (Kd.V_drew HL317_1.out)
                  have n4_ := Aside0.mk (blk_drew BK310.out)
                  have n5_ := Aside0.mk (blk_drew BK311.out)
                  have n6_ := Aside0.mk (blk_drew BK312.out)
                  have n7_ := Aside0.mk (blk_drew BK318.out)
                  have n8_ := Aside0.mk (below_drew1 HB.out)
                  clear HO_7 HO_311001 HO_311002 HL317_1 BK310 BK311 BK312 BK318 HB
                  have HO_7 := n0_
                  have HO_311001 := n1_
                  have HO_311002 := n2_
                  have HL317_1 := n3_
                  have BK310 := n4_
                  have BK311 := n5_
                  have BK312 := n6_
                  have BK318 := n7_
                  have HB := n8_
                  clear n0_ n1_ n2_ n3_ n4_ n5_ n6_ n7_ n8_
                  refine start_ (n := 5) (S := fun w' => w'.cell? ⟨gb310, 0, none⟩ = some (.int .i64 a0_0) ∧ w'.cell? ⟨gb310, 1, none⟩ = some (.slice Ao39 x7_2.length co39) ∧ w'.cell? ⟨gb310, 2, none⟩ = some (.slice A0_2 l0_2.length c0_2) ∧ w'.cell? ⟨gb318, 0, none⟩ = some (.int .u32 ((rd_T29 l0_1 a1).f0)) ∧ w'.cell? ⟨gb318, 1, none⟩ = some (.slice A317_1 ((rd_T29 l0_1 a1).f1).length c317_1)) (ds := []) #[false, false, false, false, false] (by kernel_rfl) rfl rfl ⟨(blk_cell BK310.out 0).trans rfl, (blk_cell BK310.out 1).trans rfl, (blk_cell BK310.out 2).trans rfl, (blk_cell BK318.out 0).trans rfl, (blk_cell BK318.out 1).trans rfl⟩ (fun hHeld => ?_)
                  generalize w41.drew = w42 at HO_7 HO_311001 HO_311002 HL317_1 BK310 BK311 BK312 BK318 HB hHeld ⊢
                  refine take_ (i := 0) (N := some 46) (v := ?_) (a' := ?_) #[true, false, false, false, false] rfl rfl (by kernel_rfl) (fun _ _ _ h => h) (Or.inl ⟨by rfl, ?_⟩) hHeld ?_ ?_
                  rotate_left
                  · rintro w' ⟨s0, s1, s2, s3, s4⟩
                    go_simp
                    with_reducible rfl
                  rotate_left
                  · simp only [Act.put, List.setIfInBounds_toArray, List.set_cons_zero, List.set_cons_succ, i64_w, i32_w]
                    rfl
                  refine take_ (i := 1) (N := some 47) (v := ?_) (a' := ?_) #[true, true, false, false, false] rfl rfl (by kernel_rfl) (fun _ _ _ h => h) (Or.inl ⟨by rfl, ?_⟩) hHeld ?_ ?_
                  rotate_left
                  · rintro w' ⟨s0, s1, s2, s3, s4⟩
                    go_simp
                    with_reducible rfl
                  rotate_left
                  · simp only [Act.put, List.setIfInBounds_toArray, List.set_cons_zero, List.set_cons_succ, i64_w, i32_w]
                    rfl
                  refine one_ (i := 2) (N := none) #[true, true, true, false, false] rfl rfl (by kernel_rfl) (by decide) (fun K hK => ?_)
                  have hs43 : w42.cell? ⟨gb311, 0, none⟩ = some (.int .i64 0) := (blk_cell BK311.out 0).trans rfl
                  have hfs43 := blk_frozen BK311.out 0
                  have hns43_0 := NB310_311.out
                  have hns43_2 := NB312_311.out
                  have hns43_3 := NB318_311.out
                  have hms43_0 := NB311_310.out
                  have hms43_2 := NB311_312.out
                  have hms43_3 := NB311_318.out
                  have hs44 : w42.cell? ⟨gb311, 1, none⟩ = some (.slice none 0 0) := (blk_cell BK311.out 1).trans rfl
                  have hfs44 := blk_frozen BK311.out 1
                  have hns44_0 := NB310_311.out
                  have hns44_2 := NB312_311.out
                  have hns44_3 := NB318_311.out
                  have hms44_0 := NB311_310.out
                  have hms44_2 := NB311_312.out
                  have hms44_3 := NB311_318.out
                  have hs45 : w42.cell? ⟨gb311, 2, none⟩ = some (.slice none 0 0) := (blk_cell BK311.out 2).trans rfl
                  have hfs45 := blk_frozen BK311.out 2
                  have hns45_0 := NB310_311.out
                  have hns45_2 := NB312_311.out
                  have hns45_3 := NB318_311.out
                  have hms45_0 := NB311_310.out
                  have hms45_2 := NB311_312.out
                  have hms45_3 := NB311_318.out
                  refine skip_ (w1 := ?_) (by rfl) rfl ?_ ?_
                  rotate_left
                  · go_simp
                    rfl
                  refine hK.out _ _ ⟨((cell_far (p := ⟨gb311, _, none⟩) NB310_311.out _).trans (((cell_far (p := ⟨gb311, _, none⟩) NB310_311.out _).trans (((cell_far (p := ⟨gb311, _, none⟩) NB310_311.out _).trans (hHeld.1)))))), ((cell_far (p := ⟨gb311, _, none⟩) NB310_311.out _).trans (((cell_far (p := ⟨gb311, _, none⟩) NB310_311.out _).trans (((cell_far (p := ⟨gb311, _, none⟩) NB310_311.out _).trans (hHeld.2.1)))))), ((cell_far (p := ⟨gb311, _, none⟩) NB310_311.out _).trans (((cell_far (p := ⟨gb311, _, none⟩) NB310_311.out _).trans (((cell_far (p := ⟨gb311, _, none⟩) NB310_311.out _).trans (hHeld.2.2.1)))))), ((cell_far (p := ⟨gb311, _, none⟩) NB318_311.out _).trans (((cell_far (p := ⟨gb311, _, none⟩) NB318_311.out _).trans (((cell_far (p := ⟨gb311, _, none⟩) NB318_311.out _).trans (hHeld.2.2.2.1)))))), ((cell_far (p := ⟨gb311, _, none⟩) NB318_311.out _).trans (((cell_far (p := ⟨gb311, _, none⟩) NB318_311.out _).trans (((cell_far (p := ⟨gb311, _, none⟩) NB318_311.out _).trans (hHeld.2.2.2.2))))))⟩ (fun hHeld => ?_)
                  clear hK K
                  refine one_ (i := 3) (N := none) #[true, true, true, true, false] rfl rfl (by kernel_rfl) (by decide) (fun K hK => ?_)
                  have hs46 : w42.cell? ⟨gb312, 0, none⟩ = some (.int .u32 0) := (blk_cell BK312.out 0).trans rfl
                  have hfs46 := blk_frozen BK312.out 0
                  have hns46_0 := NB310_312.out
                  have hns46_1 := NB311_312.out
                  have hns46_3 := NB318_312.out
                  have hms46_0 := NB312_310.out
                  have hms46_1 := NB312_311.out
                  have hms46_3 := NB312_318.out
                  have hs47 : w42.cell? ⟨gb312, 1, none⟩ = some (.slice none 0 0) := (blk_cell BK312.out 1).trans rfl
                  have hfs47 := blk_frozen BK312.out 1
                  have hns47_0 := NB310_312.out
                  have hns47_1 := NB311_312.out
                  have hns47_3 := NB318_312.out
                  have hms47_0 := NB312_310.out
                  have hms47_1 := NB312_311.out
                  have hms47_3 := NB312_318.out
                  refine skip_ (w1 := ?_) (by rfl) rfl ?_ ?_
                  rotate_left
                  · go_simp
                    rfl
                  refine hK.out _ _ ⟨((cell_far (p := ⟨gb312, _, none⟩) NB310_312.out _).trans (((cell_far (p := ⟨gb312, _, none⟩) NB310_312.out _).trans (hHeld.1)))), ((cell_far (p := ⟨gb312, _, none⟩) NB310_312.out _).trans (((cell_far (p := ⟨gb312, _, none⟩) NB310_312.out _).trans (hHeld.2.1)))), ((cell_far (p := ⟨gb312, _, none⟩) NB310_312.out _).trans (((cell_far (p := ⟨gb312, _, none⟩) NB310_312.out _).trans (hHeld.2.2.1)))), ((cell_far (p := ⟨gb312, _, none⟩) NB318_312.out _).trans (((cell_far (p := ⟨gb312, _, none⟩) NB318_312.out _).trans (hHeld.2.2.2.1)))), ((cell_far (p := ⟨gb312, _, none⟩) NB318_312.out _).trans (((cell_far (p := ⟨gb312, _, none⟩) NB318_312.out _).trans (hHeld.2.2.2.2))))⟩ (fun hHeld => ?_)
                  clear hK K
                  refine pure_ (i := 4) (N := some 6) (v := ?_) (a' := ?_) #[true, true, true, true, true] rfl rfl (by kernel_rfl) (fun _ _ _ h => h) (Or.inl ⟨by rfl, ?_⟩) ?_ ?_
                  rotate_left
                  · intro w'
                    go_simp
                    with_reducible rfl
                  rotate_left
                  · simp only [Act.put, List.setIfInBounds_toArray, List.set_cons_zero, List.set_cons_succ, i64_w, i32_w]
                    rfl
                  refine done_ (by kernel_rfl) ?_
                  try go_wp2
                  refine bodyPost_ret (results_list (rs := [.cell 4 25, .cell 5 29, .tmp 6]) rfl (by simp) (.cell gb311 25 #[.int .i64 a0_0, .slice Ao39 x7_2.length co39, .slice A0_2 l0_2.length c0_2] (0, 0) _ rfl (by (with_reducible repeat (first | refine blk_drewN ?_ _ | refine blk_drew ?_ | refine blk_alloc ?_ _)); refine blk_far ?_ NB311_312.out _; (with_reducible repeat (first | refine blk_drewN ?_ _ | refine blk_drew ?_ | refine blk_alloc ?_ _)); refine blk_far ?_ NB311_312.out _; (with_reducible repeat (first | refine blk_drewN ?_ _ | refine blk_drew ?_ | refine blk_alloc ?_ _)); refine blk_put (cs := #[.int .i64 a0_0, .slice Ao39 x7_2.length co39, .slice none 0 0]) ?_ 2 _ rfl; (with_reducible repeat (first | refine blk_drewN ?_ _ | refine blk_drew ?_ | refine blk_alloc ?_ _)); refine blk_put (cs := #[.int .i64 a0_0, .slice none 0 0, .slice none 0 0]) ?_ 1 _ rfl; (with_reducible repeat (first | refine blk_drewN ?_ _ | refine blk_drew ?_ | refine blk_alloc ?_ _)); refine blk_put (cs := #[.int .i64 0, .slice none 0 0, .slice none 0 0]) ?_ 0 _ rfl; (with_reducible repeat (first | refine blk_drewN ?_ _ | refine blk_drew ?_ | refine blk_alloc ?_ _)); exact BK311.out) Try.underlying25 rfl (by kernel_rfl) (.cell gb312 29 #[.int .u32 ((rd_T29 l0_1 a1).f0), .slice A317_1 ((rd_T29 l0_1 a1).f1).length c317_1] (0, 0) _ rfl (by (with_reducible repeat (first | refine blk_drewN ?_ _ | refine blk_drew ?_ | refine blk_alloc ?_ _)); refine blk_put (cs := #[.int .u32 ((rd_T29 l0_1 a1).f0), .slice none 0 0]) ?_ 1 _ rfl; (with_reducible repeat (first | refine blk_drewN ?_ _ | refine blk_drew ?_ | refine blk_alloc ?_ _)); refine blk_put (cs := #[.int .u32 0, .slice none 0 0]) ?_ 0 _ rfl; (with_reducible repeat (first | refine blk_drewN ?_ _ | refine blk_drew ?_ | refine blk_alloc ?_ _)); refine blk_far ?_ NB312_311.out _; (with_reducible repeat (first | refine blk_drewN ?_ _ | refine blk_drew ?_ | refine blk_alloc ?_ _)); refine blk_far ?_ NB312_311.out _; (with_reducible repeat (first | refine blk_drewN ?_ _ | refine blk_drew ?_ | refine blk_alloc ?_ _)); refine blk_far ?_ NB312_311.out _; (with_reducible repeat (first | refine blk_drewN ?_ _ | refine blk_drew ?_ | refine blk_alloc ?_ _)); exact BK312.out) Try.underlying29 rfl (by kernel_rfl) (.tmp .nil)))) rfl ?_
                  exact ⟨_, _, _, by first | rfl | (simp [errW_none, errW_some] <;> rfl) | (simp [*, errW_none, errW_some] <;> rfl), Kd.N_V (by (with_reducible repeat (first | apply Kd.N_alloc | apply Kd.N_drewN | apply Kd.N_drew)); exact Kd.N_mono (n2_ (g := gb312) (Kd.N_far (p := ⟨gb311, 2, none⟩) (Kd.N_far (p := ⟨gb311, 1, none⟩) (Kd.N_far (p := ⟨gb311, 0, none⟩) (Kd.N_mono (Kd.N_mono HO_7.out (fun k_ hk => (⟨hk, hk.2.2.1⟩ : _ ∧ k_ ≠ gb311))) (fun k_ hk => (⟨hk, hk.1.2.2.2.1⟩ : _ ∧ k_ ≠ gb312))) (fun _ hk => hk.1.2) (.int .i64 a0_0)) (fun _ hk => hk.1.2) (.slice Ao39 x7_2.length co39)) (fun _ hk => hk.1.2) (.slice A0_2 l0_2.length c0_2))) (fun _ hk => hk.1.1.1)), by (with_reducible repeat (first | apply Kd.V_alloc | apply Kd.V_drewN | apply Kd.V_drew)); exact Kd.V_mono (v2_ (g := gb312) (Kd.V_far (p := ⟨gb311, 2, none⟩) (Kd.V_far (p := ⟨gb311, 1, none⟩) (Kd.V_far (p := ⟨gb311, 0, none⟩) (Kd.V_mono (Kd.V_mono HO_311002.out (fun k_ hk => (⟨hk, hk.2.2.2.1⟩ : _ ∧ k_ ≠ gb311))) (fun k_ hk => (⟨hk, hk.1.2.2.2.2.1⟩ : _ ∧ k_ ≠ gb312))) (fun _ hk => hk.1.2) (.int .i64 a0_0)) (fun _ hk => hk.1.2) (.slice Ao39 x7_2.length co39)) (fun _ hk => hk.1.2) (.slice A0_2 l0_2.length c0_2))) (fun _ hk => hk.1.1.1), by (with_reducible repeat (first | apply Kd.V_alloc | apply Kd.V_drewN | apply Kd.V_drew)); exact Kd.V_mono (v2_ (g := gb312) (Kd.V_far (p := ⟨gb311, 2, none⟩) (Kd.V_far (p := ⟨gb311, 1, none⟩) (Kd.V_far (p := ⟨gb311, 0, none⟩) (Kd.V_mono (Kd.V_mono HL317_1.out (fun k_ hk => (⟨hk, hk.2.2.2.1⟩ : _ ∧ k_ ≠ gb311))) (fun k_ hk => (⟨hk, hk.1.2.2.2.2.1⟩ : _ ∧ k_ ≠ gb312))) (fun _ hk => hk.1.2) (.int .i64 a0_0)) (fun _ hk => hk.1.2) (.slice Ao39 x7_2.length co39)) (fun _ hk => hk.1.2) (.slice A0_2 l0_2.length c0_2))) (fun _ hk => hk.1.1.1), by repeat (first | (with_reducible first | exact HB.out | apply below_alloc | apply pw_below_drewN | apply below_drew1 | refine below_set ?_ GE310.out | refine below_set ?_ GE311.out | refine below_set ?_ GE312.out | refine below_set ?_ GE318.out) | exact HB.out)⟩
                · rw [if_neg c30] at H
                  exact absurd H (by simp)
              · rw [if_neg c29] at H
                exact absurd H (by simp)

/-! ### chamberlainref06_Double: function 17 -/
def chamberlainref06_Double.f (a0_0 : Int) (l0_1 : List (S29)) (l0_2 : List (List Int)) (a1 : Int) : Option (Int × (List (S29)) × (List (List Int)) × Int) := if a1 < 0 then some (a0_0, l0_1, l0_2, 1) else if a1 ≥ (l0_1.length : Int) then some (a0_0, l0_1, l0_2, 1) else if (l0_1.length : Int) ≥ a0_0 then some (a0_0, l0_1, l0_2, 10) else if l0_1.length < 1000000 then some (a0_0, l0_1 ++ [rd_T29 l0_1 a1], l0_2, 0) else none
set_option maxHeartbeats 8000000 in
set_option maxRecDepth 100000 in
theorem chamberlainref06_Double.calls (a0_0 : Int) (P0_1_ : Nat → Prop) (A0_1 : Option Addr) (c0_1 : Nat) (l0_1 : List (S29)) (P0_2_ : Nat → Prop) (A0_2 : Option Addr) (c0_2 : Nat) (l0_2 : List (List Int)) (a1 : Int) (r1 : Int) (r2 : List (S29)) (r3 : List (List Int)) (r4 : Int) (w : World) (hs0_1 : Kd.V k29 29 w w.heap.size (fun k_ => P0_1_ k_) (.slice A0_1 l0_1.length c0_1) l0_1) (hs0_2 : Kd.V (Kd.slice 26 (Kd.int .u32)) 27 w w.heap.size (fun k_ => P0_2_ k_) (.slice A0_2 l0_2.length c0_2) l0_2) (h : chamberlainref06_Double.f a0_0 l0_1 l0_2 a1 = some (r1, r2, r3, r4)) :
    Calls Try.prog 17 #[.agg #[.int .i64 a0_0, .slice A0_1 l0_1.length c0_1, .slice A0_2 l0_2.length c0_2], .int .i64 a1] w fun e w' => ∃ v1_ v2_ : Value, e = .returned (.tuple #[.agg #[.int .i64 r1, v1_, v2_], .int .i64 r4]) ∧ Kd.V k29 29 w' w.heap.size (fun k_ => ((P0_1_ k_ ∨ P0_2_ k_) ∨ w.heap.size ≤ k_)) v1_ r2 ∧ Kd.V (Kd.slice 26 (Kd.int .u32)) 27 w' w.heap.size (fun k_ => ((P0_1_ k_ ∨ P0_2_ k_) ∨ w.heap.size ≤ k_)) v2_ r3 ∧ Below w.heap.size w w' := by
  unfold chamberlainref06_Double.f at h
  have B1 : ((w.alloc (.cells #[.int .i64 a0_0, .slice A0_1 l0_1.length c0_1, .slice A0_2 l0_2.length c0_2] 25)).alloc (.cells #[.int .i64 0, .slice none 0 0, .slice none 0 0] 25)).heap[w.heap.size]? = some (.cells #[.int .i64 a0_0, .slice A0_1 l0_1.length c0_1, .slice A0_2 l0_2.length c0_2] 25 (0, 0)) := blk_alloc (MapKept.heap_alloc _ _).1 _
  have B3 : ((w.alloc (.cells #[.int .i64 a0_0, .slice A0_1 l0_1.length c0_1, .slice A0_2 l0_2.length c0_2] 25)).alloc (.cells #[.int .i64 0, .slice none 0 0, .slice none 0 0] 25)).heap[w.heap.size + 1]? = some (.cells #[.int .i64 0, .slice none 0 0, .slice none 0 0] 25 (0, 0)) := by have := (MapKept.heap_alloc (w.alloc (.cells #[.int .i64 a0_0, .slice A0_1 l0_1.length c0_1, .slice A0_2 l0_2.length c0_2] 25)) (.cells #[.int .i64 0, .slice none 0 0, .slice none 0 0] 25)).1; simpa using this
  have hB : Below w.heap.size w ((w.alloc (.cells #[.int .i64 a0_0, .slice A0_1 l0_1.length c0_1, .slice A0_2 l0_2.length c0_2] 25)).alloc (.cells #[.int .i64 0, .slice none 0 0, .slice none 0 0] 25)) := below_alloc (below_alloc (Below.refl _ _) _) _
  obtain ⟨W0, hW0⟩ : ∃ W0 : World, W0 = (w.alloc (.cells #[.int .i64 a0_0, .slice A0_1 l0_1.length c0_1, .slice A0_2 l0_2.length c0_2] 25)).alloc (.cells #[.int .i64 0, .slice none 0 0, .slice none 0 0] 25) := ⟨_, rfl⟩
  rw [← hW0] at B1 B3 hB
  have Hw0 := Aside0.mk hW0
  clear hW0
  have hne3 : ∀ k, ((P0_1_ k ∨ P0_2_ k) ∧ k < w.heap.size ∨ w.heap.size + 1 + 1 ≤ k) → k ≠ w.heap.size + 1 := fun k hk => by omega
  obtain ⟨_, hc1, F1⟩ := Kd.V_at hs0_1
  obtain ⟨_, hc2, F2⟩ := Kd.V_at hs0_2
  clear hs0_1 hs0_2
  have V1 := Kd.V_mk (e := 29) (base := 0) hc1 (nrow.mv (R := fun k => P0_1_ k ∨ P0_2_ k) (m := w.heap.size + 1 + 1) hB (fun k hk => .inl hk) F1)
  have V2 := Kd.V_mk (e := 27) (base := 0) hc2 (nrow.mv (R := fun k => P0_1_ k ∨ P0_2_ k) (m := w.heap.size + 1 + 1) hB (fun k hk => .inr hk) F2)
  by_cases c1 : a1 < 0
  · rw [if_pos c1] at h
    simp only [Option.some.injEq, Prod.mk.injEq] at h
    obtain ⟨rfl, rfl, rfl, rfl⟩ := h
    have c1b : decide (a1 < 0) = true := decide_eq_true c1
    clear c1
    have k0 : W0.cell? ⟨w.heap.size, 0, none⟩ = some (.int .i64 a0_0) := (blk_cell B1 0).trans rfl
    have k1 : W0.cell? ⟨w.heap.size, 1, none⟩ = some (.slice A0_1 l0_1.length c0_1) := (blk_cell B1 1).trans rfl
    have k2 : W0.cell? ⟨w.heap.size, 2, none⟩ = some (.slice A0_2 l0_2.length c0_2) := (blk_cell B1 2).trans rfl
    have p0 : W0.cell? ⟨w.heap.size + 1, 0, none⟩ = some (.int .i64 0) := (blk_cell B3 0).trans rfl
    have p1 : W0.cell? ⟨w.heap.size + 1, 1, none⟩ = some (.slice none 0 0) := (blk_cell B3 1).trans rfl
    have p2 : W0.cell? ⟨w.heap.size + 1, 2, none⟩ = some (.slice none 0 0) := (blk_cell B3 2).trans rfl
    have g0 := blk_frozen B3 0
    have g1 := blk_frozen B3 1
    have g2 := blk_frozen B3 2
    go_enter Try.func17, Try.ntmps17
    go_upto_region 1 with (fail)
    rw [← Hw0.out]
    go_wp2
    refine bodyPost_ret (results_ct rfl _ _ (w.heap.size + 1) 25 #[.int .i64 a0_0, .slice A0_1 l0_1.length c0_1, .slice A0_2 l0_2.length c0_2] (0, 0) _ rfl (by refine blk_put (cs := #[.int .i64 a0_0, .slice A0_1 l0_1.length c0_1, .slice none 0 0]) ?_ 2 _ rfl; refine blk_put (cs := #[.int .i64 a0_0, .slice none 0 0, .slice none 0 0]) ?_ 1 _ rfl; exact blk_put B3 0 _ rfl) Try.underlying25 rfl (by kernel_rfl)) rfl ?_
    have hgg : w.heap.size ≤ w.heap.size + 1 := by omega
    exact ⟨_, _, rfl, Kd.V_mono (Kd.V_far (p := ⟨w.heap.size + 1, 2, none⟩) (Kd.V_far (p := ⟨w.heap.size + 1, 1, none⟩) (Kd.V_far (p := ⟨w.heap.size + 1, 0, none⟩) V1 hne3 _) hne3 _) hne3 _) (fun k hk => hk.elim (fun h => .inl h.1) (fun h => .inr (by omega))), Kd.V_mono (Kd.V_far (p := ⟨w.heap.size + 1, 2, none⟩) (Kd.V_far (p := ⟨w.heap.size + 1, 1, none⟩) (Kd.V_far (p := ⟨w.heap.size + 1, 0, none⟩) V2 hne3 _) hne3 _) hne3 _) (fun k hk => hk.elim (fun h => .inl h.1) (fun h => .inr (by omega))), below_set (below_set (below_set hB hgg) hgg) hgg⟩
  rw [if_neg c1] at h
  have c1b : decide (a1 < 0) = false := decide_eq_false c1
  have c1p : 0 ≤ a1 := by omega
  by_cases c2 : a1 ≥ (l0_1.length : Int)
  · rw [if_pos c2] at h
    simp only [Option.some.injEq, Prod.mk.injEq] at h
    obtain ⟨rfl, rfl, rfl, rfl⟩ := h
    have c2b : decide ((l0_1.length : Int) ≤ a1) = true := decide_eq_true c2
    clear c1 c2
    have k0 : W0.cell? ⟨w.heap.size, 0, none⟩ = some (.int .i64 a0_0) := (blk_cell B1 0).trans rfl
    have k1 : W0.cell? ⟨w.heap.size, 1, none⟩ = some (.slice A0_1 l0_1.length c0_1) := (blk_cell B1 1).trans rfl
    have k2 : W0.cell? ⟨w.heap.size, 2, none⟩ = some (.slice A0_2 l0_2.length c0_2) := (blk_cell B1 2).trans rfl
    have p0 : W0.cell? ⟨w.heap.size + 1, 0, none⟩ = some (.int .i64 0) := (blk_cell B3 0).trans rfl
    have p1 : W0.cell? ⟨w.heap.size + 1, 1, none⟩ = some (.slice none 0 0) := (blk_cell B3 1).trans rfl
    have p2 : W0.cell? ⟨w.heap.size + 1, 2, none⟩ = some (.slice none 0 0) := (blk_cell B3 2).trans rfl
    have g0 := blk_frozen B3 0
    have g1 := blk_frozen B3 1
    have g2 := blk_frozen B3 2
    go_enter Try.func17, Try.ntmps17
    go_upto_region 1 with (fail)
    rw [← Hw0.out]
    go_wp2
    refine bodyPost_ret (results_ct rfl _ _ (w.heap.size + 1) 25 #[.int .i64 a0_0, .slice A0_1 l0_1.length c0_1, .slice A0_2 l0_2.length c0_2] (0, 0) _ rfl (by refine blk_put (cs := #[.int .i64 a0_0, .slice A0_1 l0_1.length c0_1, .slice none 0 0]) ?_ 2 _ rfl; refine blk_put (cs := #[.int .i64 a0_0, .slice none 0 0, .slice none 0 0]) ?_ 1 _ rfl; exact blk_put B3 0 _ rfl) Try.underlying25 rfl (by kernel_rfl)) rfl ?_
    have hgg : w.heap.size ≤ w.heap.size + 1 := by omega
    exact ⟨_, _, rfl, Kd.V_mono (Kd.V_far (p := ⟨w.heap.size + 1, 2, none⟩) (Kd.V_far (p := ⟨w.heap.size + 1, 1, none⟩) (Kd.V_far (p := ⟨w.heap.size + 1, 0, none⟩) V1 hne3 _) hne3 _) hne3 _) (fun k hk => hk.elim (fun h => .inl h.1) (fun h => .inr (by omega))), Kd.V_mono (Kd.V_far (p := ⟨w.heap.size + 1, 2, none⟩) (Kd.V_far (p := ⟨w.heap.size + 1, 1, none⟩) (Kd.V_far (p := ⟨w.heap.size + 1, 0, none⟩) V2 hne3 _) hne3 _) hne3 _) (fun k hk => hk.elim (fun h => .inl h.1) (fun h => .inr (by omega))), below_set (below_set (below_set hB hgg) hgg) hgg⟩
  rw [if_neg c2] at h
  have c2b : decide ((l0_1.length : Int) ≤ a1) = false := decide_eq_false c2
  have c2p : a1 < (l0_1.length : Int) := by omega
  by_cases c3 : (l0_1.length : Int) ≥ a0_0
  · rw [if_pos c3] at h
    simp only [Option.some.injEq, Prod.mk.injEq] at h
    obtain ⟨rfl, rfl, rfl, rfl⟩ := h
    have c3b : decide (a0_0 ≤ (l0_1.length : Int)) = true := decide_eq_true c3
    clear c1 c2 c3
    have k0 : W0.cell? ⟨w.heap.size, 0, none⟩ = some (.int .i64 a0_0) := (blk_cell B1 0).trans rfl
    have k1 : W0.cell? ⟨w.heap.size, 1, none⟩ = some (.slice A0_1 l0_1.length c0_1) := (blk_cell B1 1).trans rfl
    have k2 : W0.cell? ⟨w.heap.size, 2, none⟩ = some (.slice A0_2 l0_2.length c0_2) := (blk_cell B1 2).trans rfl
    have p0 : W0.cell? ⟨w.heap.size + 1, 0, none⟩ = some (.int .i64 0) := (blk_cell B3 0).trans rfl
    have p1 : W0.cell? ⟨w.heap.size + 1, 1, none⟩ = some (.slice none 0 0) := (blk_cell B3 1).trans rfl
    have p2 : W0.cell? ⟨w.heap.size + 1, 2, none⟩ = some (.slice none 0 0) := (blk_cell B3 2).trans rfl
    have g0 := blk_frozen B3 0
    have g1 := blk_frozen B3 1
    have g2 := blk_frozen B3 2
    go_enter Try.func17, Try.ntmps17
    go_upto_region 1 with (fail)
    rw [← Hw0.out]
    go_wp2
    refine bodyPost_ret (results_ct rfl _ _ (w.heap.size + 1) 25 #[.int .i64 a0_0, .slice A0_1 l0_1.length c0_1, .slice A0_2 l0_2.length c0_2] (0, 0) _ rfl (by refine blk_put (cs := #[.int .i64 a0_0, .slice A0_1 l0_1.length c0_1, .slice none 0 0]) ?_ 2 _ rfl; refine blk_put (cs := #[.int .i64 a0_0, .slice none 0 0, .slice none 0 0]) ?_ 1 _ rfl; exact blk_put B3 0 _ rfl) Try.underlying25 rfl (by kernel_rfl)) rfl ?_
    have hgg : w.heap.size ≤ w.heap.size + 1 := by omega
    exact ⟨_, _, rfl, Kd.V_mono (Kd.V_far (p := ⟨w.heap.size + 1, 2, none⟩) (Kd.V_far (p := ⟨w.heap.size + 1, 1, none⟩) (Kd.V_far (p := ⟨w.heap.size + 1, 0, none⟩) V1 hne3 _) hne3 _) hne3 _) (fun k hk => hk.elim (fun h => .inl h.1) (fun h => .inr (by omega))), Kd.V_mono (Kd.V_far (p := ⟨w.heap.size + 1, 2, none⟩) (Kd.V_far (p := ⟨w.heap.size + 1, 1, none⟩) (Kd.V_far (p := ⟨w.heap.size + 1, 0, none⟩) V2 hne3 _) hne3 _) hne3 _) (fun k hk => hk.elim (fun h => .inl h.1) (fun h => .inr (by omega))), below_set (below_set (below_set hB hgg) hgg) hgg⟩
  rw [if_neg c3] at h
  have c3b : decide (a0_0 ≤ (l0_1.length : Int)) = false := decide_eq_false c3
  clear c1 c2 c3
  by_cases hm : l0_1.length < 1000000
  rotate_left
  · rw [if_neg hm] at h; cases h
  rw [if_pos hm] at h
  simp only [Option.some.injEq, Prod.mk.injEq] at h
  obtain ⟨rfl, rfl, rfl, rfl⟩ := h
  have HM := Aside0.mk hm
  clear hm V1 V2
  have k0 : W0.cell? ⟨w.heap.size, 0, none⟩ = some (.int .i64 a0_0) := (blk_cell B1 0).trans rfl
  have k1 : W0.cell? ⟨w.heap.size, 1, none⟩ = some (.slice A0_1 l0_1.length c0_1) := (blk_cell B1 1).trans rfl
  have k2 : W0.cell? ⟨w.heap.size, 2, none⟩ = some (.slice A0_2 l0_2.length c0_2) := (blk_cell B1 2).trans rfl
  obtain ⟨ad, AE, cE, rfl, hx0, hx1, hlE, FE⟩ := ndbl.elem F1 a1 c1p c2p
  obtain ⟨olds, ho1, ho2, _, ho4, ho5⟩ := nrow.olds F1 (by decide)
  have FX := k29_mkF w _ (rd_T29 l0_1 a1) hlE FE
  have Ho1 := Aside0.mk (show olds.length = l0_1.length * 2 from ho1)
  have Ho2 := Aside0.mk (ho2 ad rfl)
  have Ho4 := Aside0.mk ho4
  have Ho5 := Aside0.mk ho5
  have Hx0 := Aside0.mk hx0
  have Hx1 := Aside0.mk hx1
  clear ho1 ho2 ho4 ho5 F1 FE hx0 hx1 k0 k1 k2
  have B1 := B1
  have k0 : W0.cell? ⟨w.heap.size, 0, none⟩ = some (.int .i64 a0_0) := (blk_cell B1 0).trans rfl
  have k1 : W0.cell? ⟨w.heap.size, 1, none⟩ = some (.slice (some ad) l0_1.length c0_1) := (blk_cell B1 1).trans rfl
  have p : (0 ≤ a1) = True := eq_true c1p
  have q : (a1 < (l0_1.length : Int)) = True := eq_true c2p
  have HP := Aside0.mk c1p
  have HQ := Aside0.mk c2p
  clear c1p c2p hc1
  obtain ⟨i0, hi, hz0, hz1, hz2⟩ := info_parts info29
  have Hi := Aside0.mk hi
  have Hz0 := Aside0.mk hz0
  have Hz1 := Aside0.mk hz1
  have Hz2 := Aside0.mk hz2
  clear hi hz0 hz1 hz2
  go_enter Try.func17, Try.ntmps17
  go_upto_region 5 with (fail)
  rw [← Hw0.out]
  have sz0 : w.heap.size + 1 + 1 ≤ W0.heap.size := by rw [Hw0.out]; simp
  clear Hw0 k0 k1
  refine start_ (n := 13) (S := fun w' => w'.cell? ⟨w.heap.size, 0, none⟩ = some (.int .i64 a0_0) ∧ w'.cell? ⟨w.heap.size, 1, none⟩ = some (.slice (some ad) l0_1.length c0_1) ∧ w'.cell? ⟨w.heap.size, 2, none⟩ = some (.slice A0_2 l0_2.length c0_2) ∧ w'.cell? (ad.add (a1.toNat * 2)) = some (.int .u32 (rd_T29 l0_1 a1).f0) ∧ w'.cell? ⟨(ad.add (a1.toNat * 2)).block, (ad.add (a1.toNat * 2)).off + 1, none⟩ = some (.slice AE (rd_T29 l0_1 a1).f1.length cE)) (ds := [12]) #[false, false, false, false, false, false, false, false, false, false, false, false, false] (by kernel_rfl) rfl rfl ⟨(blk_cell (blk_drew B1) 0).trans rfl, (blk_cell (blk_drew B1) 1).trans rfl, (blk_cell (blk_drew B1) 2).trans rfl, pw_cell_below (below_drew hB) Hx0.out, pw_cell_below (below_drew hB) Hx1.out⟩ (fun hHeld => ?_)
  obtain ⟨W1, hW1⟩ : ∃ W1 : World, W1 = W0.drew := ⟨_, rfl⟩
  have C1 := blk_drew B1
  have C3 := blk_drew B3
  have hC := below_drew hB
  have sz1 : w.heap.size + 1 + 1 ≤ W0.drew.heap.size := by simpa using sz0
  rw [← hW1] at C1 C3 hC sz1 hHeld ⊢
  clear hW1 B1 B3 hB sz0
  refine pure_ (i := 1) (N := some 24) (v := ?_) (a' := ?_) #[false, true, false, false, false, false, false, false, false, false, false, false, false] rfl rfl (by kernel_rfl) (fun _ _ _ h => h) (Or.inl ⟨by rfl, ?_⟩) ?_ ?_
  rotate_left
  · intro w'
    go_simp
    with_reducible rfl
  rotate_left
  · simp only [Act.put, List.setIfInBounds_toArray, List.set_cons_zero, List.set_cons_succ, i64_w, i32_w]
    rfl
  refine take_ (i := 2) (N := some 25) (v := ?_) (a' := ?_) #[false, true, true, false, false, false, false, false, false, false, false, false, false] rfl rfl (by kernel_rfl) (fun _ _ _ h => h) (Or.inl ⟨by rfl, ?_⟩) hHeld ?_ ?_
  rotate_left
  · rintro w' ⟨s0, s1, s2, s3, s4⟩
    go_simp
    with_reducible rfl
  rotate_left
  · simp only [Act.put, List.setIfInBounds_toArray, List.set_cons_zero, List.set_cons_succ, i64_w, i32_w]
    rfl
  refine pure_ (i := 4) (N := some 27) (v := ?_) (a' := ?_) #[false, true, true, false, true, false, false, false, false, false, false, false, false] rfl rfl (by kernel_rfl) (fun _ _ _ h => h) (Or.inl ⟨by rfl, ?_⟩) ?_ ?_
  rotate_left
  · intro w'
    go_simp
    with_reducible rfl
  rotate_left
  · simp only [Act.put, List.setIfInBounds_toArray, List.set_cons_zero, List.set_cons_succ, i64_w, i32_w]
    rfl
  refine take_ (i := 5) (N := some 28) (v := ?_) (a' := ?_) #[false, true, true, false, true, true, false, false, false, false, false, false, false] rfl rfl (by kernel_rfl) (fun _ _ _ h => h) (Or.inl ⟨by rfl, ?_⟩) hHeld ?_ ?_
  rotate_left
  · rintro w' ⟨s0, s1, s2, s3, s4⟩
    go_simp
    with_reducible rfl
  rotate_left
  · simp only [Act.put, List.setIfInBounds_toArray, List.set_cons_zero, List.set_cons_succ, i64_w, i32_w]
    rfl
  refine pure_ (i := 6) (N := some 29) (v := ?_) (a' := ?_) #[false, true, true, false, true, true, true, false, false, false, false, false, false] rfl rfl (by kernel_rfl) (fun _ _ _ h => h) (Or.inl ⟨by rfl, ?_⟩) ?_ ?_
  rotate_left
  · intro w'
    go_simp
    with_reducible rfl
  rotate_left
  · simp only [Act.put, List.setIfInBounds_toArray, List.set_cons_zero, List.set_cons_succ, i64_w, i32_w]
    rfl
  refine pure_ (i := 7) (N := some 30) (v := ?_) (a' := ?_) #[false, true, true, false, true, true, true, true, false, false, false, false, false] rfl rfl (by kernel_rfl) (fun _ _ _ h => h) (Or.inl ⟨by rfl, ?_⟩) ?_ ?_
  rotate_left
  · intro w'
    go_simp
    with_reducible rfl
  rotate_left
  · simp only [Act.put, List.setIfInBounds_toArray, List.set_cons_zero, List.set_cons_succ, i64_w, i32_w]
    rfl
  refine take_ (i := 8) (N := some 31) (v := ?_) (a' := ?_) #[false, true, true, false, true, true, true, true, true, false, false, false, false] rfl rfl (by kernel_rfl) (fun _ _ _ h => h) (Or.inl ⟨by rfl, ?_⟩) hHeld ?_ ?_
  rotate_left
  · rintro w' ⟨s0, s1, s2, s3, s4⟩
    go_simp
    with_reducible rfl
  rotate_left
  · simp only [Act.put, List.setIfInBounds_toArray, List.set_cons_zero, List.set_cons_succ, i64_w, i32_w]
    rfl
  refine join_ (σ := Value × Value × Value) 3 #[true, true, true, true, true, true, true, true, true, true, false, false, false] (fun s_ => [(23, s_.1), (26, s_.2.1), (32, s_.2.2)]) (fun s_ w' => (w'.heap[w.heap.size]? = some (.cells #[.int .i64 a0_0, .slice (some ad) l0_1.length c0_1, .slice A0_2 l0_2.length c0_2] 25 (0, 0))) ∧ (w'.heap[w.heap.size + 1]? = some (.cells #[.int .i64 0, .slice none 0 0, .slice none 0 0] 25 (0, 0))) ∧ Below w.heap.size w w' ∧ w.heap.size + 1 + 1 ≤ w'.heap.size ∧ w'.ownsRow (w.heap.size + 1 + 1) 29 2 s_.2.1 l0_1.length olds ∧ ∃ gE, s_.2.2 = .slice (some ⟨gE, 0, none⟩) 1 1 ∧ w'.heap[gE]? = some (.cells #[.int .u32 (rd_T29 l0_1 a1).f0, .slice AE (rd_T29 l0_1 a1).f1.length cE] 29 (0, 0))) ?cont (fun hCont => ?_)
  case cont =>
    rintro ⟨v23, v26, v32⟩ W6 ⟨C1, C3, hC, sz6, hown, gE, e32, BE⟩
    simp only at e32 hown
    subst e32
    refine norm_ (a' := ?_) ?_ ?_
    rotate_left
    · simp only [putAll, Act.put, List.setIfInBounds_toArray, List.set_cons_zero, List.set_cons_succ, i64_w, i32_w]
      rfl
    clear hHeld
    refine one_ (i := 10) (N := some 33) #[true, true, true, true, true, true, true, true, true, true, true, false, false] rfl rfl (by kernel_rfl) (by decide) (fun K hK => ?_)
    refine step_append_lies _ (by rfl) (.tmp 26) (.tmp 32) 22 (by rfl) (w.heap.size + 1 + 1) 29 i0 (.agg #[(.int .u32 0), (.slice none 0 0)]) 2 32 Try.underlying22 Hi.out Hz0.out Hz1.out Hz2.out (by rfl) (by decide) v26 l0_1.length olds (by rfl) hown ⟨gE, 0, none⟩ 1 1 [.int .u32 (rd_T29 l0_1 a1).f0, .slice AE (rd_T29 l0_1 a1).f1.length cE] (by rfl) (by rfl) (fun j u hu => by rw [nrow.add0]; exact (blk_cell BE j).trans (by simpa using hu)) (fun u hu => k29.K_one (Kd.FK_now FX) u hu) (by decide) (by have := HM.out; unfold maxLen; omega) (by have := HM.out; omega) sz6 _ rfl ?_
    intro gA cA W7 hownA hgA hatA hltA
    have hbs : ∀ k, v26.ownBlock = some k → w.heap.size + 1 + 1 ≤ k := own_base hown
    have D1 := blk_grown C1 hgA (fun e => by have := hbs _ e.symm; omega)
    have D3 := blk_grown C3 hgA (fun e => by have := hbs _ e.symm; omega)
    have hD := hC.grown hgA hC.size (fun k hk => by have := hbs _ hk; omega)
    have sz7 : w.heap.size + 1 + 1 ≤ W7.heap.size := by have := hgA.size; omega
    have hVA : Kd.V k29 29 W7 0 (fun k => (P0_1_ k ∨ P0_2_ k) ∧ k < w.heap.size ∨ w.heap.size + 1 + 1 ≤ k) (.slice (some ⟨gA, 0, none⟩) (l0_1.length + 1) cA) (l0_1 ++ [rd_T29 l0_1 a1]) := nrow.Vat (by decide) hownA Ho1.out (fun j y hy => Kd.FK_mono (Kd.FK_below (Kd.FK_bound (Ho4.out j y hy)) hD) (fun k hk => .inl ⟨.inl hk.1, hk.2⟩)) (by rfl) (Kd.FK_mono (Kd.FK_below (Kd.FK_bound FX) hD) (fun k hk => .inl ⟨.inl hk.1, hk.2⟩)) (fun k hk => .inr hk) HM.out
    clear C1 C3 hC hgA hatA hltA hownA hown BE hbs
    refine hK.out _ _ ⟨(blk_cell D1 0).trans rfl, (blk_cell D1 1).trans rfl, (blk_cell D1 2).trans rfl, pw_cell_below hD Hx0.out, pw_cell_below hD Hx1.out⟩ (fun hHeld => ?_)
    clear hK K
    refine norm_ (a' := ?_) ?_ ?_
    rotate_left
    · show Act.put _ (some 33) _ = _
      simp only [Act.put, List.setIfInBounds_toArray, List.set_cons_zero, List.set_cons_succ, i64_w, i32_w]
      rfl
    refine pure_ (i := 11) (N := some 34) (v := ?_) (a' := ?_) #[true, true, true, true, true, true, true, true, true, true, true, true, false] rfl rfl (by kernel_rfl) (fun _ _ _ h => h) (Or.inl ⟨by rfl, ?_⟩) ?_ ?_
    rotate_left
    · intro w'
      go_simp
      with_reducible rfl
    rotate_left
    · simp only [Act.put, List.setIfInBounds_toArray, List.set_cons_zero, List.set_cons_succ, i64_w, i32_w]
      rfl
    refine last_ (i := 12) (N := none) #[true, true, true, true, true, true, true, true, true, true, true, true, true] rfl rfl (by kernel_rfl) (by decide) (fun K hK => ?_)
    have q1 : W7.cell? ⟨w.heap.size, 1, none⟩ = some (.slice (some ad) l0_1.length c0_1) := (blk_cell D1 1).trans rfl
    have z1 := blk_frozen D1 1
    refine skip_ (w1 := ?_) (by rfl) rfl ?_ ?_
    rotate_left
    · go_simp
      rfl
    refine hK.out _ _ ?_
    clear hK K
    refine done_ (by kernel_rfl) ?_
    have J1 : (W7.setCell ⟨w.heap.size, 1, none⟩ (.slice (some ⟨gA, 0, none⟩) (l0_1.length + 1) cA)).heap[w.heap.size]? = some (.cells #[.int .i64 a0_0, .slice (some ⟨gA, 0, none⟩) (l0_1.length + 1) cA, .slice A0_2 l0_2.length c0_2] 25 (0, 0)) := blk_put D1 1 _ rfl
    have J3 : (W7.setCell ⟨w.heap.size, 1, none⟩ (.slice (some ⟨gA, 0, none⟩) (l0_1.length + 1) cA)).heap[w.heap.size + 1]? = some (.cells #[.int .i64 0, .slice none 0 0, .slice none 0 0] 25 (0, 0)) := blk_far (p := ⟨w.heap.size, 1, none⟩) D3 (by show w.heap.size + 1 ≠ w.heap.size; omega) _
    have hB3 : Below w.heap.size w (W7.setCell ⟨w.heap.size, 1, none⟩ (.slice (some ⟨gA, 0, none⟩) (l0_1.length + 1) cA)) := below_set hD (Nat.le_refl _)
    have hne : ∀ k, ((P0_1_ k ∨ P0_2_ k) ∧ k < w.heap.size ∨ w.heap.size + 1 + 1 ≤ k) → k ≠ w.heap.size := fun k hk => by omega
    have V1 := Kd.V_far (p := ⟨w.heap.size, 1, none⟩) hVA hne (.slice (some ⟨gA, 0, none⟩) (l0_1.length + 1) cA)
    have V2 := Kd.V_far (p := ⟨w.heap.size, 1, none⟩) (Kd.V_mk (e := 27) (base := 0) hc2 (nrow.mv (R := fun k => P0_1_ k ∨ P0_2_ k) (m := w.heap.size + 1 + 1) hD (fun k hk => .inr hk) F2)) hne (.slice (some ⟨gA, 0, none⟩) (l0_1.length + 1) cA)
    clear D1 D3 hVA q1 z1 hHeld hD hne
    obtain ⟨W8, hW8⟩ : ∃ W8 : World, W8 = W7.setCell ⟨w.heap.size, 1, none⟩ (.slice (some ⟨gA, 0, none⟩) (l0_1.length + 1) cA) := ⟨_, rfl⟩
    rw [← hW8] at J1 J3 hB3 V1 V2 ⊢
    clear hW8
    have k0 : W8.cell? ⟨w.heap.size, 0, none⟩ = some (.int .i64 a0_0) := (blk_cell J1 0).trans rfl
    have k1 : W8.cell? ⟨w.heap.size, 1, none⟩ = some (.slice (some ⟨gA, 0, none⟩) (l0_1.length + 1) cA) := (blk_cell J1 1).trans rfl
    have k2 : W8.cell? ⟨w.heap.size, 2, none⟩ = some (.slice A0_2 l0_2.length c0_2) := (blk_cell J1 2).trans rfl
    have p0 : W8.cell? ⟨w.heap.size + 1, 0, none⟩ = some (.int .i64 0) := (blk_cell J3 0).trans rfl
    have p1 : W8.cell? ⟨w.heap.size + 1, 1, none⟩ = some (.slice none 0 0) := (blk_cell J3 1).trans rfl
    have p2 : W8.cell? ⟨w.heap.size + 1, 2, none⟩ = some (.slice none 0 0) := (blk_cell J3 2).trans rfl
    have g0 := blk_frozen J3 0
    have g1 := blk_frozen J3 1
    have g2 := blk_frozen J3 2
    go_wp2
    refine bodyPost_ret (results_ct rfl _ _ (w.heap.size + 1) 25 #[.int .i64 a0_0, .slice (some ⟨gA, 0, none⟩) (l0_1.length + 1) cA, .slice A0_2 l0_2.length c0_2] (0, 0) _ rfl (by refine blk_put (cs := #[.int .i64 a0_0, .slice (some ⟨gA, 0, none⟩) (l0_1.length + 1) cA, .slice none 0 0]) ?_ 2 _ rfl; refine blk_put (cs := #[.int .i64 a0_0, .slice none 0 0, .slice none 0 0]) ?_ 1 _ rfl; exact blk_put J3 0 _ rfl) Try.underlying25 rfl (by kernel_rfl)) rfl ?_
    have hgg : w.heap.size ≤ w.heap.size + 1 := by omega
    exact ⟨_, _, rfl, Kd.V_mono (Kd.V_far (p := ⟨w.heap.size + 1, 2, none⟩) (Kd.V_far (p := ⟨w.heap.size + 1, 1, none⟩) (Kd.V_far (p := ⟨w.heap.size + 1, 0, none⟩) V1 hne3 _) hne3 _) hne3 _) (fun k hk => hk.elim (fun h => .inl h.1) (fun h => .inr (by omega))), Kd.V_mono (Kd.V_far (p := ⟨w.heap.size + 1, 2, none⟩) (Kd.V_far (p := ⟨w.heap.size + 1, 1, none⟩) (Kd.V_far (p := ⟨w.heap.size + 1, 0, none⟩) V2 hne3 _) hne3 _) hne3 _) (fun k hk => hk.elim (fun h => .inl h.1) (fun h => .inr (by omega))), below_set (below_set (below_set hB3 hgg) hgg) hgg⟩
  have sz := sz1
  clear sz1
  refine two_ (i := 0) (j := 9) (Ni := some 23) (Nj := some 32) #[true, true, true, false, true, true, true, true, true, false, false, false, false] #[false, true, true, false, true, true, true, true, true, true, false, false, false] rfl rfl rfl rfl (by kernel_rfl) (by decide) (by decide) (fun K hK => ?_) (fun K hK => ?_)
  · skip
    refine ndbl.val (v := .slice (some ⟨W1.heap.size, 0, none⟩) 0 0) (w1 := W1.alloc (.cells #[] 29)) (by rfl) rfl ?_ ?_
    · first | (go_simp; done) | (go_simp; rfl)
    obtain ⟨g23, hg23⟩ : ∃ g23, g23 = W1.heap.size := ⟨_, rfl⟩
    rw [← hg23]
    clear hg23
    obtain ⟨W2, hw2⟩ : ∃ W2 : World, W2 = W1.alloc (.cells #[] 29) := ⟨_, rfl⟩
    rw [← hw2]
    have hal : Below W1.heap.size W1 W2 := by rw [hw2]; exact below_alloc (Below.refl _ _) _
    have C1n := blk_below C1 hal
    have C3n := blk_below C3 hal
    have hCn := hC.trans (hal.mono hC.size)
    have szn : w.heap.size + 1 + 1 ≤ W2.heap.size := Nat.le_trans sz hal.size
    clear hal C1 C3 hC sz hw2
    have C1 := C1n
    have C3 := C3n
    have hC := hCn
    have sz := szn
    clear C1n C3n hCn szn
    refine hK.out _ _ ⟨(blk_cell C1 0).trans rfl, (blk_cell C1 1).trans rfl, (blk_cell C1 2).trans rfl, pw_cell_below hC Hx0.out, pw_cell_below hC Hx1.out⟩ (fun hHeld => ?_)
    clear hK K
    refine norm_ (a' := ?_) ?_ ?_
    rotate_left
    · show Act.put _ (some 23) _ = _
      simp only [Act.put, List.setIfInBounds_toArray, List.set_cons_zero, List.set_cons_succ, i64_w, i32_w]
      rfl
    refine two_ (i := 3) (j := 9) (Ni := some 26) (Nj := some 32) #[true, true, true, true, true, true, true, true, true, false, false, false, false] #[true, true, true, false, true, true, true, true, true, true, false, false, false] rfl rfl rfl rfl (by kernel_rfl) (by decide) (by decide) (fun K hK => ?_) (fun K hK => ?_)
    · skip
      refine step_append_grows (by rfl) (.tmp 23) (.tmp 25) 22 (by rfl) 29 i0 (.agg #[(.int .u32 0), (.slice none 0 0)]) 2 32 Try.underlying22 Hi.out Hz0.out Hz1.out Hz2.out (by rfl) (by decide) (some ⟨g23, 0, none⟩) 0 0 [] (by rfl) (fun h => by cases h) (by simp) (fun b _ j u hu => by simp at hu) ad l0_1.length c0_1 olds (by rfl) Ho1.out (fun j u hu => pw_cell_below hC (Ho2.out j u hu)) Ho5.out (by have := HP.out; have := HQ.out; omega) (by have := HM.out; unfold maxLen; omega) (by have := HM.out; omega) ?_
      intro v26 W3 hown0 hg0
      have hown : W3.ownsRow (w.heap.size + 1 + 1) 29 2 v26 l0_1.length olds := own_weaken (by simpa using hown0) sz
      have hal : Below W2.heap.size W2 W3 := (Below.refl _ _).grown hg0 (Nat.le_refl _) (fun k hk => by cases hk)
      clear hown0 hg0
      have C1n := blk_below C1 hal
      have C3n := blk_below C3 hal
      have hCn := hC.trans (hal.mono hC.size)
      have szn : w.heap.size + 1 + 1 ≤ W3.heap.size := Nat.le_trans sz hal.size
      clear hal C1 C3 hC sz
      have C1 := C1n
      have C3 := C3n
      have hC := hCn
      have sz := szn
      clear C1n C3n hCn szn
      refine hK.out _ _ ⟨(blk_cell C1 0).trans rfl, (blk_cell C1 1).trans rfl, (blk_cell C1 2).trans rfl, pw_cell_below hC Hx0.out, pw_cell_below hC Hx1.out⟩ (fun hHeld => ?_)
      clear hK K
      refine norm_ (a' := ?_) ?_ ?_
      rotate_left
      · show Act.put _ (some 26) _ = _
        simp only [Act.put, List.setIfInBounds_toArray, List.set_cons_zero, List.set_cons_succ, i64_w, i32_w]
        rfl
      refine one_ (i := 9) (N := some 32) #[true, true, true, true, true, true, true, true, true, true, false, false, false] rfl rfl (by kernel_rfl) (by decide) (fun K hK => ?_)
      refine ndbl.val (v := .slice (some ⟨W3.heap.size, 0, none⟩) 1 1) (w1 := W3.alloc (.cells #[.int .u32 (rd_T29 l0_1 a1).f0, .slice AE (rd_T29 l0_1 a1).f1.length cE] 29)) (by rfl) rfl ?_ ?_
      · first | (go_simp; done) | (go_simp; rfl)
      have BE0 := (MapKept.heap_alloc W3 (.cells #[.int .u32 (rd_T29 l0_1 a1).f0, .slice AE (rd_T29 l0_1 a1).f1.length cE] 29)).1
      obtain ⟨gE, hgE⟩ : ∃ gE, gE = W3.heap.size := ⟨_, rfl⟩
      rw [← hgE] at BE0 ⊢
      clear hgE
      obtain ⟨W4, hw2⟩ : ∃ W4 : World, W4 = W3.alloc (.cells #[.int .u32 (rd_T29 l0_1 a1).f0, .slice AE (rd_T29 l0_1 a1).f1.length cE] 29) := ⟨_, rfl⟩
      rw [← hw2] at BE0 ⊢
      have hal : Below W3.heap.size W3 W4 := by rw [hw2]; exact below_alloc (Below.refl _ _) _
      have C1n := blk_below C1 hal
      have C3n := blk_below C3 hal
      have hCn := hC.trans (hal.mono hC.size)
      have szn : w.heap.size + 1 + 1 ≤ W4.heap.size := Nat.le_trans sz hal.size
      have hown2 := own_move hown (fun k hk => hal.block k (own_lt hown k hk))
      clear hown
      have hown := hown2
      clear hown2
      clear hal C1 C3 hC sz hw2
      have C1 := C1n
      have C3 := C3n
      have hC := hCn
      have sz := szn
      clear C1n C3n hCn szn
      have BE := BE0
      clear BE0
      refine hK.out _ _ ⟨(blk_cell C1 0).trans rfl, (blk_cell C1 1).trans rfl, (blk_cell C1 2).trans rfl, pw_cell_below hC Hx0.out, pw_cell_below hC Hx1.out⟩ (fun hHeld => ?_)
      clear hK K
      refine norm_ (a' := ?_) ?_ ?_
      rotate_left
      · show Act.put _ (some 32) _ = _
        simp only [Act.put, List.setIfInBounds_toArray, List.set_cons_zero, List.set_cons_succ, i64_w, i32_w]
        rfl
      exact norm_ (by simp only [putAll, Act.put, List.setIfInBounds_toArray, List.set_cons_zero, List.set_cons_succ]) (hCont (.slice (some ⟨g23, 0, none⟩) 0 0, v26, .slice (some ⟨gE, 0, none⟩) 1 1) _ ⟨C1, C3, hC, sz, hown, gE, rfl, BE⟩)
    · skip
      refine ndbl.val (v := .slice (some ⟨W2.heap.size, 0, none⟩) 1 1) (w1 := W2.alloc (.cells #[.int .u32 (rd_T29 l0_1 a1).f0, .slice AE (rd_T29 l0_1 a1).f1.length cE] 29)) (by rfl) rfl ?_ ?_
      · first | (go_simp; done) | (go_simp; rfl)
      have BE0 := (MapKept.heap_alloc W2 (.cells #[.int .u32 (rd_T29 l0_1 a1).f0, .slice AE (rd_T29 l0_1 a1).f1.length cE] 29)).1
      obtain ⟨gE, hgE⟩ : ∃ gE, gE = W2.heap.size := ⟨_, rfl⟩
      rw [← hgE] at BE0 ⊢
      clear hgE
      obtain ⟨W3, hw2⟩ : ∃ W3 : World, W3 = W2.alloc (.cells #[.int .u32 (rd_T29 l0_1 a1).f0, .slice AE (rd_T29 l0_1 a1).f1.length cE] 29) := ⟨_, rfl⟩
      rw [← hw2] at BE0 ⊢
      have hal : Below W2.heap.size W2 W3 := by rw [hw2]; exact below_alloc (Below.refl _ _) _
      have C1n := blk_below C1 hal
      have C3n := blk_below C3 hal
      have hCn := hC.trans (hal.mono hC.size)
      have szn : w.heap.size + 1 + 1 ≤ W3.heap.size := Nat.le_trans sz hal.size
      clear hal C1 C3 hC sz hw2
      have C1 := C1n
      have C3 := C3n
      have hC := hCn
      have sz := szn
      clear C1n C3n hCn szn
      have BE := BE0
      clear BE0
      refine hK.out _ _ ⟨(blk_cell C1 0).trans rfl, (blk_cell C1 1).trans rfl, (blk_cell C1 2).trans rfl, pw_cell_below hC Hx0.out, pw_cell_below hC Hx1.out⟩ (fun hHeld => ?_)
      clear hK K
      refine norm_ (a' := ?_) ?_ ?_
      rotate_left
      · show Act.put _ (some 32) _ = _
        simp only [Act.put, List.setIfInBounds_toArray, List.set_cons_zero, List.set_cons_succ, i64_w, i32_w]
        rfl
      refine one_ (i := 3) (N := some 26) #[true, true, true, true, true, true, true, true, true, true, false, false, false] rfl rfl (by kernel_rfl) (by decide) (fun K hK => ?_)
      refine step_append_grows (by rfl) (.tmp 23) (.tmp 25) 22 (by rfl) 29 i0 (.agg #[(.int .u32 0), (.slice none 0 0)]) 2 32 Try.underlying22 Hi.out Hz0.out Hz1.out Hz2.out (by rfl) (by decide) (some ⟨g23, 0, none⟩) 0 0 [] (by rfl) (fun h => by cases h) (by simp) (fun b _ j u hu => by simp at hu) ad l0_1.length c0_1 olds (by rfl) Ho1.out (fun j u hu => pw_cell_below hC (Ho2.out j u hu)) Ho5.out (by have := HP.out; have := HQ.out; omega) (by have := HM.out; unfold maxLen; omega) (by have := HM.out; omega) ?_
      intro v26 W4 hown0 hg0
      have hown : W4.ownsRow (w.heap.size + 1 + 1) 29 2 v26 l0_1.length olds := own_weaken (by simpa using hown0) sz
      have hal : Below W3.heap.size W3 W4 := (Below.refl _ _).grown hg0 (Nat.le_refl _) (fun k hk => by cases hk)
      clear hown0 hg0
      have C1n := blk_below C1 hal
      have C3n := blk_below C3 hal
      have hCn := hC.trans (hal.mono hC.size)
      have szn : w.heap.size + 1 + 1 ≤ W4.heap.size := Nat.le_trans sz hal.size
      have BE2 := blk_below BE hal
      clear BE
      have BE := BE2
      clear BE2
      clear hal C1 C3 hC sz
      have C1 := C1n
      have C3 := C3n
      have hC := hCn
      have sz := szn
      clear C1n C3n hCn szn
      refine hK.out _ _ ⟨(blk_cell C1 0).trans rfl, (blk_cell C1 1).trans rfl, (blk_cell C1 2).trans rfl, pw_cell_below hC Hx0.out, pw_cell_below hC Hx1.out⟩ (fun hHeld => ?_)
      clear hK K
      refine norm_ (a' := ?_) ?_ ?_
      rotate_left
      · show Act.put _ (some 26) _ = _
        simp only [Act.put, List.setIfInBounds_toArray, List.set_cons_zero, List.set_cons_succ, i64_w, i32_w]
        rfl
      exact norm_ (by simp only [putAll, Act.put, List.setIfInBounds_toArray, List.set_cons_zero, List.set_cons_succ]) (hCont (.slice (some ⟨g23, 0, none⟩) 0 0, v26, .slice (some ⟨gE, 0, none⟩) 1 1) _ ⟨C1, C3, hC, sz, hown, gE, rfl, BE⟩)
  · skip
    refine ndbl.val (v := .slice (some ⟨W1.heap.size, 0, none⟩) 1 1) (w1 := W1.alloc (.cells #[.int .u32 (rd_T29 l0_1 a1).f0, .slice AE (rd_T29 l0_1 a1).f1.length cE] 29)) (by rfl) rfl ?_ ?_
    · first | (go_simp; done) | (go_simp; rfl)
    have BE0 := (MapKept.heap_alloc W1 (.cells #[.int .u32 (rd_T29 l0_1 a1).f0, .slice AE (rd_T29 l0_1 a1).f1.length cE] 29)).1
    obtain ⟨gE, hgE⟩ : ∃ gE, gE = W1.heap.size := ⟨_, rfl⟩
    rw [← hgE] at BE0 ⊢
    clear hgE
    obtain ⟨W2, hw2⟩ : ∃ W2 : World, W2 = W1.alloc (.cells #[.int .u32 (rd_T29 l0_1 a1).f0, .slice AE (rd_T29 l0_1 a1).f1.length cE] 29) := ⟨_, rfl⟩
    rw [← hw2] at BE0 ⊢
    have hal : Below W1.heap.size W1 W2 := by rw [hw2]; exact below_alloc (Below.refl _ _) _
    have C1n := blk_below C1 hal
    have C3n := blk_below C3 hal
    have hCn := hC.trans (hal.mono hC.size)
    have szn : w.heap.size + 1 + 1 ≤ W2.heap.size := Nat.le_trans sz hal.size
    clear hal C1 C3 hC sz hw2
    have C1 := C1n
    have C3 := C3n
    have hC := hCn
    have sz := szn
    clear C1n C3n hCn szn
    have BE := BE0
    clear BE0
    refine hK.out _ _ ⟨(blk_cell C1 0).trans rfl, (blk_cell C1 1).trans rfl, (blk_cell C1 2).trans rfl, pw_cell_below hC Hx0.out, pw_cell_below hC Hx1.out⟩ (fun hHeld => ?_)
    clear hK K
    refine norm_ (a' := ?_) ?_ ?_
    rotate_left
    · show Act.put _ (some 32) _ = _
      simp only [Act.put, List.setIfInBounds_toArray, List.set_cons_zero, List.set_cons_succ, i64_w, i32_w]
      rfl
    refine one_ (i := 0) (N := some 23) #[true, true, true, false, true, true, true, true, true, true, false, false, false] rfl rfl (by kernel_rfl) (by decide) (fun K hK => ?_)
    refine ndbl.val (v := .slice (some ⟨W2.heap.size, 0, none⟩) 0 0) (w1 := W2.alloc (.cells #[] 29)) (by rfl) rfl ?_ ?_
    · first | (go_simp; done) | (go_simp; rfl)
    obtain ⟨g23, hg23⟩ : ∃ g23, g23 = W2.heap.size := ⟨_, rfl⟩
    rw [← hg23]
    clear hg23
    obtain ⟨W3, hw2⟩ : ∃ W3 : World, W3 = W2.alloc (.cells #[] 29) := ⟨_, rfl⟩
    rw [← hw2]
    have hal : Below W2.heap.size W2 W3 := by rw [hw2]; exact below_alloc (Below.refl _ _) _
    have C1n := blk_below C1 hal
    have C3n := blk_below C3 hal
    have hCn := hC.trans (hal.mono hC.size)
    have szn : w.heap.size + 1 + 1 ≤ W3.heap.size := Nat.le_trans sz hal.size
    have BE2 := blk_below BE hal
    clear BE
    have BE := BE2
    clear BE2
    clear hal C1 C3 hC sz hw2
    have C1 := C1n
    have C3 := C3n
    have hC := hCn
    have sz := szn
    clear C1n C3n hCn szn
    refine hK.out _ _ ⟨(blk_cell C1 0).trans rfl, (blk_cell C1 1).trans rfl, (blk_cell C1 2).trans rfl, pw_cell_below hC Hx0.out, pw_cell_below hC Hx1.out⟩ (fun hHeld => ?_)
    clear hK K
    refine norm_ (a' := ?_) ?_ ?_
    rotate_left
    · show Act.put _ (some 23) _ = _
      simp only [Act.put, List.setIfInBounds_toArray, List.set_cons_zero, List.set_cons_succ, i64_w, i32_w]
      rfl
    refine one_ (i := 3) (N := some 26) #[true, true, true, true, true, true, true, true, true, true, false, false, false] rfl rfl (by kernel_rfl) (by decide) (fun K hK => ?_)
    refine step_append_grows (by rfl) (.tmp 23) (.tmp 25) 22 (by rfl) 29 i0 (.agg #[(.int .u32 0), (.slice none 0 0)]) 2 32 Try.underlying22 Hi.out Hz0.out Hz1.out Hz2.out (by rfl) (by decide) (some ⟨g23, 0, none⟩) 0 0 [] (by rfl) (fun h => by cases h) (by simp) (fun b _ j u hu => by simp at hu) ad l0_1.length c0_1 olds (by rfl) Ho1.out (fun j u hu => pw_cell_below hC (Ho2.out j u hu)) Ho5.out (by have := HP.out; have := HQ.out; omega) (by have := HM.out; unfold maxLen; omega) (by have := HM.out; omega) ?_
    intro v26 W4 hown0 hg0
    have hown : W4.ownsRow (w.heap.size + 1 + 1) 29 2 v26 l0_1.length olds := own_weaken (by simpa using hown0) sz
    have hal : Below W3.heap.size W3 W4 := (Below.refl _ _).grown hg0 (Nat.le_refl _) (fun k hk => by cases hk)
    clear hown0 hg0
    have C1n := blk_below C1 hal
    have C3n := blk_below C3 hal
    have hCn := hC.trans (hal.mono hC.size)
    have szn : w.heap.size + 1 + 1 ≤ W4.heap.size := Nat.le_trans sz hal.size
    have BE2 := blk_below BE hal
    clear BE
    have BE := BE2
    clear BE2
    clear hal C1 C3 hC sz
    have C1 := C1n
    have C3 := C3n
    have hC := hCn
    have sz := szn
    clear C1n C3n hCn szn
    refine hK.out _ _ ⟨(blk_cell C1 0).trans rfl, (blk_cell C1 1).trans rfl, (blk_cell C1 2).trans rfl, pw_cell_below hC Hx0.out, pw_cell_below hC Hx1.out⟩ (fun hHeld => ?_)
    clear hK K
    refine norm_ (a' := ?_) ?_ ?_
    rotate_left
    · show Act.put _ (some 26) _ = _
      simp only [Act.put, List.setIfInBounds_toArray, List.set_cons_zero, List.set_cons_succ, i64_w, i32_w]
      rfl
    exact norm_ (by simp only [putAll, Act.put, List.setIfInBounds_toArray, List.set_cons_zero, List.set_cons_succ]) (hCont (.slice (some ⟨g23, 0, none⟩) 0 0, v26, .slice (some ⟨gE, 0, none⟩) 1 1) _ ⟨C1, C3, hC, sz, hown, gE, rfl, BE⟩)

/-! ### chamberlainref01_Rows: function 27 -/
def chamberlainref01_Rows.l0 : Nat → List (List Int) → List (List Int) → Int → Option (Bool)
  | 0, _, _, _ => none
  | k + 1, x0, x1, x5 => if x5 < (x0.length : Int) then (if 0 ≤ x5 then (if x5 < (x1.length : Int) then ((chamberlainref01_Same.f k (rd_L1 x0 x5) (rd_L1 x1 x5)).bind fun t334 => (if t334 = true then (chamberlainref01_Rows.l0 k x0 x1 (wrap64 (x5 + 1))) else (some false))) else (none)) else (none)) else (some true)
def chamberlainref01_Rows.f (k : Nat) (l0 : List (List Int)) (l1 : List (List Int)) : Option (Bool) := if (l0.length : Int) = (l1.length : Int) then (chamberlainref01_Rows.l0 k l0 l1 0) else (some false)
theorem chamberlainref01_Rows.mono_l : ∀ k, (∀ y0 y1 y2, LeO (chamberlainref01_Rows.l0 k y0 y1 y2) (chamberlainref01_Rows.l0 (k + 1) y0 y1 y2))
  | 0 => fun _ _ _ r h => by simp [chamberlainref01_Rows.l0] at h
  | k + 1 => by
    have ih0 := chamberlainref01_Rows.mono_l k
    · intro y0 y1 y2
      unfold chamberlainref01_Rows.l0
      repeat' first
      | (with_reducible exact ih0 _ _ _)
      | (with_reducible exact chamberlainref01_Same.mono _ _ _)
      | (with_reducible exact LeO.refl _)
      | (with_reducible exact LeO.none _)
      | (with_reducible refine LeO.ite ?_ ?_)
      | (with_reducible refine LeO.bind ?_ (fun _ => ?_))
      | exact ih0 _ _ _
      | exact chamberlainref01_Same.mono _ _ _
      | exact LeO.none _
      | refine LeO.ite ?_ ?_
      | refine LeO.bind ?_ (fun _ => ?_)
theorem chamberlainref01_Rows.mono : ∀ a0 a1 k, LeO (chamberlainref01_Rows.f k a0 a1) (chamberlainref01_Rows.f (k + 1) a0 a1) := by
  intro a0 a1 k
  have ih0 := chamberlainref01_Rows.mono_l k
  unfold chamberlainref01_Rows.f
  repeat' first
      | (with_reducible exact ih0 _ _ _)
      | (with_reducible exact chamberlainref01_Same.mono _ _ _)
      | (with_reducible exact LeO.refl _)
      | (with_reducible exact LeO.none _)
      | (with_reducible refine LeO.ite ?_ ?_)
      | (with_reducible refine LeO.bind ?_ (fun _ => ?_))
      | exact ih0 _ _ _
      | exact chamberlainref01_Same.mono _ _ _
      | exact LeO.none _
      | refine LeO.ite ?_ ?_
      | refine LeO.bind ?_ (fun _ => ?_)
set_option maxHeartbeats 8000000 in
set_option maxRecDepth 100000 in
theorem chamberlainref01_Rows.calls (k : Nat) (A0 : Option Addr) (c0 : Nat) (l0 : List (List Int)) (A1 : Option Addr) (c1 : Nat) (l1 : List (List Int)) (r : Bool) (w : World) (hr0 : Kd.C (Kd.slice 26 (Kd.int .u32)) w A0 l0.length l0) (hc0 : l0.length ≤ c0) (hr1 : Kd.C (Kd.slice 26 (Kd.int .u32)) w A1 l1.length l1) (hc1 : l1.length ≤ c1) (h : chamberlainref01_Rows.f k l0 l1 = some r) :
    Calls Try.prog 27 #[.slice A0 l0.length c0, .slice A1 l1.length c1] w fun e w' => e = .returned (.bool r) ∧ Drawn0 w w' := by
  have HR0 := Aside0.mk hr0
  have HC0 := Aside0.mk hc0
  clear hr0 hc0
  have HR1 := Aside0.mk hr1
  have HC1 := Aside0.mk hc1
  clear hr1 hc1
  have H : (if (l0.length : Int) = (l1.length : Int) then (chamberlainref01_Rows.l0 k l0 l1 0) else (some false)) = some r := h
  clear h
  by_cases c3 : (l0.length : Int) = (l1.length : Int)
  · rw [if_pos c3] at H
    have c3b0 : ((l0.length : Int) == (l1.length : Int)) = true := beq_iff_eq.mpr c3
    have c3b1 : ((l0.length : Int) != (l1.length : Int)) = false := bne_eq_false_iff_eq.mpr c3
    have c3b2 : (l0.length == l1.length) = true := by first | simpa using c3 | (simp at c3 ⊢; omega)
    clear c3
    have H' := Aside0.mk H
    clear H
    go_enter Try.func27, Try.ntmps27
    go_wp2
    repeat (go_quiet (fail); try go_wp2)
    go_loopg [5] k (fun kq v5 w' => ∃ (x5_1 : Int), v5 = .int .i64 x5_1 ∧ Aside0 (chamberlainref01_Rows.l0 kq l0 l1 x5_1 = some r) ∧ Aside0 (kq ≤ k) ∧ Drawn0 w w')
    case atStart => exact ⟨(0), (by first | rfl | (simp; done) | (simp [*]; done)), H', ⟨Nat.le_refl _⟩, by repeat (first | exact Drawn0.refl _ | apply Drawn0.step)⟩
    case round =>
      clear H'
      try clear c1
      try clear c2
      try clear p2
      try clear c3
      try clear c3b0
      try clear c3b1
      try clear c3b2
      obtain ⟨x5_1, rfl, HA, HK1, ⟨m1, rfl⟩⟩ := hrel
      cases gk with
      | zero => exact absurd HA.out (by simp [chamberlainref01_Rows.l0])
      | succ k1 =>
        have H := HA.out
        clear HA
        simp only [chamberlainref01_Rows.l0] at H
        by_cases c4 : x5_1 < (l0.length : Int)
        · rw [if_pos c4] at H
          have c4b0 : decide (x5_1 < (l0.length : Int)) = true := decide_eq_true c4
          clear c4
          by_cases c5 : 0 ≤ x5_1
          · rw [if_pos c5] at H
            have c5b0 : decide (0 ≤ x5_1) = true := decide_eq_true c5
            clear c5
            by_cases c6 : x5_1 < (l1.length : Int)
            · rw [if_pos c6] at H
              have c6b0 : decide (x5_1 < (l1.length : Int)) = true := decide_eq_true c6
              clear c6
              replace H := Option.bind_eq_some_iff.mp H
              obtain ⟨t334, A70, H⟩ := H
              replace H : (if t334 = true then (chamberlainref01_Rows.l0 k1 l0 l1 (wrap64 (x5_1 + 1))) else (some false)) = some r := H
              have A7 := Aside0.mk A70
              clear A70
              by_cases c8 : t334 = true
              · subst c8
                have H1 : (chamberlainref01_Rows.l0 k1 l0 l1 (wrap64 (x5_1 + 1))) = some r := by rw [if_pos rfl] at H; exact H
                clear H
                have H := H1
                clear H1
                have H' := Aside0.mk H
                clear H
                have p332 : 0 ≤ (x5_1 : Int) := of_decide_eq_true (by first | (with_reducible assumption) | assumption)
                have q332 : x5_1 < (l0.length : Int) := of_decide_eq_true (by first | (with_reducible assumption) | assumption)
                obtain ⟨ad332, A332_0, c332_0, e332, hx332_0, hl332_0, hi332_0⟩ := at_L1 HR0.out x5_1 p332 q332
                cases e332
                have HR332_0 := Aside0.mk hi332_0
                have HC332_0 := Aside0.mk hl332_0
                clear hi332_0 hl332_0
                replace p332 := eq_true p332
                replace q332 := eq_true q332
                have p333 : 0 ≤ (x5_1 : Int) := of_decide_eq_true (by first | (with_reducible assumption) | assumption)
                have q333 : x5_1 < (l1.length : Int) := of_decide_eq_true (by first | (with_reducible assumption) | assumption)
                obtain ⟨ad333, A333_0, c333_0, e333, hx333_0, hl333_0, hi333_0⟩ := at_L1 HR1.out x5_1 p333 q333
                cases e333
                have HR333_0 := Aside0.mk hi333_0
                have HC333_0 := Aside0.mk hl333_0
                clear hi333_0 hl333_0
                replace p333 := eq_true p333
                replace q333 := eq_true q333
                go_wp2_with (first | (go_at_call 21; (with_reducible refine (chamberlainref01_Same.calls k1 _ _ (rd_L1 l0 x5_1) _ _ (rd_L1 l1 x5_1) true _ ?side1 ?side2 ?side3 ?side4 A7.out).mono ?_); (case side1 => repeat (first | exact HR332_0.out | (with_reducible refine Kd.C_alloc ?_ _) | (with_reducible refine Kd.C_drewN ?_ _) | (with_reducible refine Kd.C_drew ?_))); (case side2 => exact HC332_0.out); (case side3 => repeat (first | exact HR333_0.out | (with_reducible refine Kd.C_alloc ?_ _) | (with_reducible refine Kd.C_drewN ?_ _) | (with_reducible refine Kd.C_drew ?_))); (case side4 => exact HC333_0.out); rintro e w' ⟨rfl, ⟨nd, rfl⟩⟩; (try first | exact ⟨rfl, _, World.drewN_drewN _ _ _⟩ | exact ⟨rfl, _, Eq.trans (World.drewN_drewN _ _ _) (congrArg (World.drewN _) (Nat.add_assoc _ _ _))⟩)))
                repeat (go_quiet (first | (go_at_call 21; (with_reducible refine (chamberlainref01_Same.calls k1 _ _ (rd_L1 l0 x5_1) _ _ (rd_L1 l1 x5_1) true _ ?side1 ?side2 ?side3 ?side4 A7.out).mono ?_); (case side1 => repeat (first | exact HR332_0.out | (with_reducible refine Kd.C_alloc ?_ _) | (with_reducible refine Kd.C_drewN ?_ _) | (with_reducible refine Kd.C_drew ?_))); (case side2 => exact HC332_0.out); (case side3 => repeat (first | exact HR333_0.out | (with_reducible refine Kd.C_alloc ?_ _) | (with_reducible refine Kd.C_drewN ?_ _) | (with_reducible refine Kd.C_drew ?_))); (case side4 => exact HC333_0.out); rintro e w' ⟨rfl, ⟨nd, rfl⟩⟩; (try first | exact ⟨rfl, _, World.drewN_drewN _ _ _⟩ | exact ⟨rfl, _, Eq.trans (World.drewN_drewN _ _ _) (congrArg (World.drewN _) (Nat.add_assoc _ _ _))⟩))); try go_wp2_with (first | (go_at_call 21; (with_reducible refine (chamberlainref01_Same.calls k1 _ _ (rd_L1 l0 x5_1) _ _ (rd_L1 l1 x5_1) true _ ?side1 ?side2 ?side3 ?side4 A7.out).mono ?_); (case side1 => repeat (first | exact HR332_0.out | (with_reducible refine Kd.C_alloc ?_ _) | (with_reducible refine Kd.C_drewN ?_ _) | (with_reducible refine Kd.C_drew ?_))); (case side2 => exact HC332_0.out); (case side3 => repeat (first | exact HR333_0.out | (with_reducible refine Kd.C_alloc ?_ _) | (with_reducible refine Kd.C_drewN ?_ _) | (with_reducible refine Kd.C_drew ?_))); (case side4 => exact HC333_0.out); rintro e w' ⟨rfl, ⟨nd, rfl⟩⟩; (try first | exact ⟨rfl, _, World.drewN_drewN _ _ _⟩ | exact ⟨rfl, _, Eq.trans (World.drewN_drewN _ _ _) (congrArg (World.drewN _) (Nat.add_assoc _ _ _))⟩))))
                go_roundg k1
                case measure => have := HK1.out; omega
                case rel => exact ⟨(wrap64 (x5_1 + 1)), (by first | rfl | (simp; done) | (simp [*]; done)), H', ⟨by have := HK1.out; omega⟩, by repeat (first | exact Drawn0.refl _ | apply Drawn0.step)⟩
              · replace c8 := Bool.eq_false_iff.mpr c8
                subst c8
                have H1 : (some false) = some r := by rw [if_neg (show ¬ (false = true) by decide)] at H; exact H
                clear H
                have H := H1
                clear H1
                obtain rfl := Option.some.inj H
                have p332 : 0 ≤ (x5_1 : Int) := of_decide_eq_true (by first | (with_reducible assumption) | assumption)
                have q332 : x5_1 < (l0.length : Int) := of_decide_eq_true (by first | (with_reducible assumption) | assumption)
                obtain ⟨ad332, A332_0, c332_0, e332, hx332_0, hl332_0, hi332_0⟩ := at_L1 HR0.out x5_1 p332 q332
                cases e332
                have HR332_0 := Aside0.mk hi332_0
                have HC332_0 := Aside0.mk hl332_0
                clear hi332_0 hl332_0
                replace p332 := eq_true p332
                replace q332 := eq_true q332
                have p333 : 0 ≤ (x5_1 : Int) := of_decide_eq_true (by first | (with_reducible assumption) | assumption)
                have q333 : x5_1 < (l1.length : Int) := of_decide_eq_true (by first | (with_reducible assumption) | assumption)
                obtain ⟨ad333, A333_0, c333_0, e333, hx333_0, hl333_0, hi333_0⟩ := at_L1 HR1.out x5_1 p333 q333
                cases e333
                have HR333_0 := Aside0.mk hi333_0
                have HC333_0 := Aside0.mk hl333_0
                clear hi333_0 hl333_0
                replace p333 := eq_true p333
                replace q333 := eq_true q333
                go_wp2_with (first | (go_at_call 21; (with_reducible refine (chamberlainref01_Same.calls k1 _ _ (rd_L1 l0 x5_1) _ _ (rd_L1 l1 x5_1) false _ ?side1 ?side2 ?side3 ?side4 A7.out).mono ?_); (case side1 => repeat (first | exact HR332_0.out | (with_reducible refine Kd.C_alloc ?_ _) | (with_reducible refine Kd.C_drewN ?_ _) | (with_reducible refine Kd.C_drew ?_))); (case side2 => exact HC332_0.out); (case side3 => repeat (first | exact HR333_0.out | (with_reducible refine Kd.C_alloc ?_ _) | (with_reducible refine Kd.C_drewN ?_ _) | (with_reducible refine Kd.C_drew ?_))); (case side4 => exact HC333_0.out); rintro e w' ⟨rfl, ⟨nd, rfl⟩⟩; (try first | exact ⟨rfl, _, World.drewN_drewN _ _ _⟩ | exact ⟨rfl, _, Eq.trans (World.drewN_drewN _ _ _) (congrArg (World.drewN _) (Nat.add_assoc _ _ _))⟩)))
                repeat (go_quiet (first | (go_at_call 21; (with_reducible refine (chamberlainref01_Same.calls k1 _ _ (rd_L1 l0 x5_1) _ _ (rd_L1 l1 x5_1) false _ ?side1 ?side2 ?side3 ?side4 A7.out).mono ?_); (case side1 => repeat (first | exact HR332_0.out | (with_reducible refine Kd.C_alloc ?_ _) | (with_reducible refine Kd.C_drewN ?_ _) | (with_reducible refine Kd.C_drew ?_))); (case side2 => exact HC332_0.out); (case side3 => repeat (first | exact HR333_0.out | (with_reducible refine Kd.C_alloc ?_ _) | (with_reducible refine Kd.C_drewN ?_ _) | (with_reducible refine Kd.C_drew ?_))); (case side4 => exact HC333_0.out); rintro e w' ⟨rfl, ⟨nd, rfl⟩⟩; (try first | exact ⟨rfl, _, World.drewN_drewN _ _ _⟩ | exact ⟨rfl, _, Eq.trans (World.drewN_drewN _ _ _) (congrArg (World.drewN _) (Nat.add_assoc _ _ _))⟩))); try go_wp2_with (first | (go_at_call 21; (with_reducible refine (chamberlainref01_Same.calls k1 _ _ (rd_L1 l0 x5_1) _ _ (rd_L1 l1 x5_1) false _ ?side1 ?side2 ?side3 ?side4 A7.out).mono ?_); (case side1 => repeat (first | exact HR332_0.out | (with_reducible refine Kd.C_alloc ?_ _) | (with_reducible refine Kd.C_drewN ?_ _) | (with_reducible refine Kd.C_drew ?_))); (case side2 => exact HC332_0.out); (case side3 => repeat (first | exact HR333_0.out | (with_reducible refine Kd.C_alloc ?_ _) | (with_reducible refine Kd.C_drewN ?_ _) | (with_reducible refine Kd.C_drew ?_))); (case side4 => exact HC333_0.out); rintro e w' ⟨rfl, ⟨nd, rfl⟩⟩; (try first | exact ⟨rfl, _, World.drewN_drewN _ _ _⟩ | exact ⟨rfl, _, Eq.trans (World.drewN_drewN _ _ _) (congrArg (World.drewN _) (Nat.add_assoc _ _ _))⟩))))
                go_ret
                exact ⟨by first | rfl | (simp; done) | (simp [*]; done), by repeat (first | exact Drawn0.refl _ | apply Drawn0.step)⟩
            · rw [if_neg c6] at H
              exact absurd H (by simp)
          · rw [if_neg c5] at H
            exact absurd H (by simp)
        · rw [if_neg c4] at H
          have c4b0 : decide (x5_1 < (l0.length : Int)) = false := decide_eq_false c4
          clear c4
          obtain rfl := Option.some.inj H
          go_wp2
          repeat (go_quiet (fail); try go_wp2)
          go_ret
          exact ⟨by first | rfl | (simp; done) | (simp [*]; done), by repeat (first | exact Drawn0.refl _ | apply Drawn0.step)⟩
  · rw [if_neg c3] at H
    have c3b0 : ((l0.length : Int) == (l1.length : Int)) = false := beq_eq_false_iff_ne.mpr c3
    have c3b1 : ((l0.length : Int) != (l1.length : Int)) = true := bne_iff_ne.mpr c3
    have c3b2 : (l0.length == l1.length) = false := by first | simpa using c3 | (simp at c3 ⊢; omega)
    obtain rfl := Option.some.inj H
    go_enter Try.func27, Try.ntmps27
    go_wp2
    repeat (go_quiet (fail); try go_wp2)
    go_ret
    exact ⟨by first | rfl | (simp; done) | (simp [*]; done), by repeat (first | exact Drawn0.refl _ | apply Drawn0.step)⟩

end Go.Proofs.Ytlbfdmoocgjiaaa.PNetKeeps
