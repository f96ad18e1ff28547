-- Written for this claim by wip/tools/myprint.py (print.py's forms; proofs of the faked functions by hand).
import Derived.Test.YtpbmmompbknimaaPPartGetsx0
namespace Go.Proofs.Ytpbmmompbknimaa.PPartGets
open Go.RowKit Go.Proofs.YtpbmmompbknimaaW.PrintWords Go.Proofs.YtpbmmompbknimaaW.PrintLast Go.Proofs.YtpbmmompbknimaaW.PrintMore
attribute [local go_sem] max2_int min2_int max_two min_two max_three min_three max_four min_four   -- for this text's walks alone
set_option linter.unusedVariables false
set_option linter.unusedSimpArgs false

/-! ### chamberlainref11_words: function 18 -/
mutual
def chamberlainref11_words.j0 : Nat → Int → Bool → Int → Int → Int → Int → Int → Int → Int → Option (List Int)
  | 0, _, _, _, _, _, _, _, _, _ => none
  | k + 1, x5, x28, x163000, x163001, x163002, x163003, x163004, x163005, x163006 => if x28 = true then (some (([x163000] : List Int))) else (if x5 = 6 then (chamberlainref11_words.j1 k x5 (x5 == 6) x163000 x163001 x163002 x163003 x163004 x163005 x163006) else (chamberlainref11_words.j1 k x5 (x5 == 7) x163000 x163001 x163002 x163003 x163004 x163005 x163006))
def chamberlainref11_words.j1 : Nat → Int → Bool → Int → Int → Int → Int → Int → Int → Int → Option (List Int)
  | 0, _, _, _, _, _, _, _, _, _ => none
  | k + 1, x5, x34, x163000, x163001, x163002, x163003, x163004, x163005, x163006 => if x34 = true then (some (([x163000, x163001, x163002, x163003] : List Int))) else (if x5 = 8 then (some (([x163000, x163004] : List Int))) else (if x5 = 9 then (some (([x163000, x163004] : List Int))) else (some ([] : List Int))))
end
def chamberlainref11_words.f (k : Nat) (a0 : Int) (a1_0 : Int) (a1_1 : Int) (a1_2 : Int) (a1_3 : Int) (a1_4 : Int) (a1_5 : Int) (a1_6 : Int) : Option (List Int) := if a0 = 2 then (some (([a1_0, a1_3, a1_4, a1_5, a1_6] : List Int))) else (if a0 = 3 then (some (([a1_4, a1_2, a1_5] : List Int))) else (if a0 = 4 then (chamberlainref11_words.j0 k a0 (a0 == 4) a1_0 a1_1 a1_2 a1_3 a1_4 a1_5 a1_6) else (chamberlainref11_words.j0 k a0 (a0 == 5) a1_0 a1_1 a1_2 a1_3 a1_4 a1_5 a1_6)))
theorem chamberlainref11_words.mono_l : ∀ k, (∀ y0 y1 y2 y3 y4 y5 y6 y7 y8, LeO (chamberlainref11_words.j0 k y0 y1 y2 y3 y4 y5 y6 y7 y8) (chamberlainref11_words.j0 (k + 1) y0 y1 y2 y3 y4 y5 y6 y7 y8)) ∧ (∀ y0 y1 y2 y3 y4 y5 y6 y7 y8, LeO (chamberlainref11_words.j1 k y0 y1 y2 y3 y4 y5 y6 y7 y8) (chamberlainref11_words.j1 (k + 1) y0 y1 y2 y3 y4 y5 y6 y7 y8))
  | 0 => ⟨fun _ _ _ _ _ _ _ _ _ r h => by simp [chamberlainref11_words.j0] at h, fun _ _ _ _ _ _ _ _ _ r h => by simp [chamberlainref11_words.j1] at h⟩
  | k + 1 => by
    obtain ⟨ih0, ih1⟩ := chamberlainref11_words.mono_l k
    refine ⟨?_, ?_⟩
    · intro y0 y1 y2 y3 y4 y5 y6 y7 y8
      unfold chamberlainref11_words.j0
      repeat' first
      | (with_reducible exact ih0 _ _ _ _ _ _ _ _ _)
      | (with_reducible exact ih1 _ _ _ _ _ _ _ _ _)
      | (with_reducible exact LeO.refl _)
      | (with_reducible exact LeO.none _)
      | (with_reducible refine LeO.ite ?_ ?_)
      | (with_reducible refine LeO.bind ?_ (fun _ => ?_))
      | exact ih0 _ _ _ _ _ _ _ _ _
      | exact ih1 _ _ _ _ _ _ _ _ _
      | exact LeO.none _
      | refine LeO.ite ?_ ?_
      | refine LeO.bind ?_ (fun _ => ?_)
    · intro y0 y1 y2 y3 y4 y5 y6 y7 y8
      unfold chamberlainref11_words.j1
      repeat' first
      | (with_reducible exact ih0 _ _ _ _ _ _ _ _ _)
      | (with_reducible exact ih1 _ _ _ _ _ _ _ _ _)
      | (with_reducible exact LeO.refl _)
      | (with_reducible exact LeO.none _)
      | (with_reducible refine LeO.ite ?_ ?_)
      | (with_reducible refine LeO.bind ?_ (fun _ => ?_))
      | exact ih0 _ _ _ _ _ _ _ _ _
      | exact ih1 _ _ _ _ _ _ _ _ _
      | exact LeO.none _
      | refine LeO.ite ?_ ?_
      | refine LeO.bind ?_ (fun _ => ?_)
theorem chamberlainref11_words.mono : ∀ a0 a1 a2 a3 a4 a5 a6 a7 k, LeO (chamberlainref11_words.f k a0 a1 a2 a3 a4 a5 a6 a7) (chamberlainref11_words.f (k + 1) a0 a1 a2 a3 a4 a5 a6 a7) := by
  intro a0 a1 a2 a3 a4 a5 a6 a7 k
  obtain ⟨ih0, ih1⟩ := chamberlainref11_words.mono_l k
  unfold chamberlainref11_words.f
  repeat' first
      | (with_reducible exact ih0 _ _ _ _ _ _ _ _ _)
      | (with_reducible exact ih1 _ _ _ _ _ _ _ _ _)
      | (with_reducible exact LeO.refl _)
      | (with_reducible exact LeO.none _)
      | (with_reducible refine LeO.ite ?_ ?_)
      | (with_reducible refine LeO.bind ?_ (fun _ => ?_))
      | exact ih0 _ _ _ _ _ _ _ _ _
      | exact ih1 _ _ _ _ _ _ _ _ _
      | exact LeO.none _
      | refine LeO.ite ?_ ?_
      | refine LeO.bind ?_ (fun _ => ?_)
set_option maxHeartbeats 8000000 in
set_option maxRecDepth 100000 in
theorem chamberlainref11_words.calls (k : Nat) (a0 : Int) (a1_0 : Int) (a1_1 : Int) (a1_2 : Int) (a1_3 : Int) (a1_4 : Int) (a1_5 : Int) (a1_6 : Int) (r : List Int) (w : World) (h : chamberlainref11_words.f k a0 a1_0 a1_1 a1_2 a1_3 a1_4 a1_5 a1_6 = some r) :
    Calls Try.prog 18 #[.int .u32 a0, .agg #[.int .u32 a1_0, .int .u32 a1_1, .int .u32 a1_2, .int .u32 a1_3, .int .u32 a1_4, .int .u32 a1_5, .int .u32 a1_6]] w fun e w' => ∃ v0_ : Value, e = .returned (v0_) ∧ Kd.R (Kd.int .u32) 22 w' w.heap.size (fun _ => True) v0_ r ∧ Below w.heap.size w w' := by
  have hu24 := Try.underlying24
  have HB := Aside0.mk (Below.refl w.heap.size w)
  have H : (if a0 = 2 then (some (([a1_0, a1_3, a1_4, a1_5, a1_6] : List Int))) else (if a0 = 3 then (some (([a1_4, a1_2, a1_5] : List Int))) else (if a0 = 4 then (chamberlainref11_words.j0 k a0 (a0 == 4) a1_0 a1_1 a1_2 a1_3 a1_4 a1_5 a1_6) else (chamberlainref11_words.j0 k a0 (a0 == 5) a1_0 a1_1 a1_2 a1_3 a1_4 a1_5 a1_6)))) = some r := h
  clear h
  by_cases c3 : a0 = 2
  · rw [if_pos c3] at H
    have c3b0 : (a0 == 2) = true := beq_iff_eq.mpr c3
    have c3b1 : (a0 != 2) = false := bne_eq_false_iff_eq.mpr c3
    clear c3
    obtain ⟨y163, hy163⟩ : ∃ y_ : List Int, y_ = (([a1_0, a1_3, a1_4, a1_5, a1_6] : List Int)) := ⟨_, rfl⟩
    replace H : (some y163) = some r := by first | (rw [hy163]; with_reducible exact H) | (have H2_ := (Option.bind_some _ _).symm.trans H; rw [hy163]; with_reducible exact H2_) | (have H2_ := (Option.bind_some _ _).symm.trans H; with_reducible exact H2_) | with_reducible exact H | (rw [hy163]; exact H) | exact H
    have Ny163 := Aside0.mk hy163
    clear hy163
    obtain rfl := Option.some.inj H
    go_enter Try.func18, Try.ntmps18
    go_wp2_with (first | ((with_reducible refine gate_dst (N := 3) rfl ?_); refine box_event ?hg (N := 3) ?hd (cs := #[.int .u32 a1_0, .int .u32 a1_1, .int .u32 a1_2, .int .u32 a1_3, .int .u32 a1_4, .int .u32 a1_5, .int .u32 a1_6]) (t := 24) ?hr ?_; (case hd => rfl); (case hg => rfl); (case hr => first | (go_simp; done) | (go_simp; rfl)); intro gb162 hg w4 hbox hb; have n0_ := Aside0.mk (below_step (by repeat (first | (with_reducible first | exact HB.out | apply below_alloc | apply pw_below_drewN | apply below_drew1) | exact HB.out)) hb); have n1_ := Aside0.mk (hbox); have n2_ := Aside0.mk ((by rw [hg]; exact (below_size (by repeat (first | (with_reducible first | exact HB.out | apply below_alloc | apply pw_below_drewN | apply below_drew1) | exact HB.out))) : w.heap.size ≤ gb162)); have n3_ := Aside0.mk ((by rw [hg]; exact (below_size (by repeat (first | (with_reducible first | exact HB.out | apply below_alloc | apply pw_below_drewN | apply below_drew1) | exact HB.out))) : w.heap.size ≤ gb162)); clear HB; have HB := n0_; have BK162 := n1_; have GW162 := n2_; have GE162 := n3_; clear n0_ n1_ n2_ n3_; clear hb hbox hg; have hcz5_0 : w4.cell? ⟨gb162, 0, none⟩ = some (.int .u32 a1_0) := (blk_cell BK162.out 0).trans rfl; have hcz5_1 : w4.cell? ⟨gb162, 1, none⟩ = some (.int .u32 a1_1) := (blk_cell BK162.out 1).trans rfl; have hcz5_2 : w4.cell? ⟨gb162, 2, none⟩ = some (.int .u32 a1_2) := (blk_cell BK162.out 2).trans rfl; have hcz5_3 : w4.cell? ⟨gb162, 3, none⟩ = some (.int .u32 a1_3) := (blk_cell BK162.out 3).trans rfl; have hcz5_4 : w4.cell? ⟨gb162, 4, none⟩ = some (.int .u32 a1_4) := (blk_cell BK162.out 4).trans rfl; have hcz5_5 : w4.cell? ⟨gb162, 5, none⟩ = some (.int .u32 a1_5) := (blk_cell BK162.out 5).trans rfl; have hcz5_6 : w4.cell? ⟨gb162, 6, none⟩ = some (.int .u32 a1_6) := (blk_cell BK162.out 6).trans rfl; have hfz5_0 := blk_frozen BK162.out 0; have hfz5_1 := blk_frozen BK162.out 1; have hfz5_2 := blk_frozen BK162.out 2; have hfz5_3 := blk_frozen BK162.out 3; have hfz5_4 := blk_frozen BK162.out 4; have hfz5_5 := blk_frozen BK162.out 5; have hfz5_6 := blk_frozen BK162.out 6) | ((with_reducible refine gate_dst (N := 18) rfl ?_); refine Kd.R_lit (Kd.int .u32) _ 22 ?hg (N := 18) ?hd (xs := ([a1_0, a1_3, a1_4, a1_5, a1_6] : List Int)) (inner := [.int .u32 a1_0, .int .u32 a1_3, .int .u32 a1_4, .int .u32 a1_5, .int .u32 a1_6]) (ok := fun _ => True) (okp := fun _ => True) ?hr ?hp (fun _ hk => hk) trivial (Below.refl _ _) (Nat.le_refl _) (by simp) ?_; (case hd => rfl); (case hg => rfl); (case hr => first | (go_simp; done) | (go_simp; rfl)); (case hp => exact (Reps.one (show Kd.M (Kd.int .u32) _ _ _ a1_0 [.int .u32 a1_0] from rfl) (Reps.one (show Kd.M (Kd.int .u32) _ _ _ a1_3 [.int .u32 a1_3] from rfl) (Reps.one (show Kd.M (Kd.int .u32) _ _ _ a1_4 [.int .u32 a1_4] from rfl) (Reps.one (show Kd.M (Kd.int .u32) _ _ _ a1_5 [.int .u32 a1_5] from rfl) (Reps.one (show Kd.M (Kd.int .u32) _ _ _ a1_6 [.int .u32 a1_6] from rfl) (Reps.none _ _))))))); intro v164 w6 ho7 hb hg_ hnew_; clear hg_ hnew_; (first | rw [← Ny163.out] at ho7 | (simp only [Int.reduceToNat] at ho7; rw [← Ny163.out] at ho7)); have n0_ := Aside0.mk (Kd.R_lower ho7 (below_size (by repeat (first | (with_reducible first | exact HB.out | apply below_alloc | apply pw_below_drewN | apply below_drew1 | refine below_set ?_ GE162.out) | exact HB.out)))); have n1_ := Aside0.mk (blk_below (g := gb162) (o := .cells #[.int .u32 a1_0, .int .u32 a1_1, .int .u32 a1_2, .int .u32 a1_3, .int .u32 a1_4, .int .u32 a1_5, .int .u32 a1_6] 24 (0, 0)) (by (with_reducible repeat (first | refine blk_drewN ?_ _ | refine blk_drew ?_ | refine blk_alloc ?_ _)); exact BK162.out) hb); have n2_ := Aside0.mk (below_step (by repeat (first | (with_reducible first | exact HB.out | apply below_alloc | apply pw_below_drewN | apply below_drew1 | refine below_set ?_ GE162.out) | exact HB.out)) hb); clear BK162; clear HB; have HO165 := n0_; have BK162 := n1_; have HB := n2_; clear n0_ n1_ n2_; clear hb ho7))
    go_ret
    exact ⟨_, by first | rfl | (simp [errW_none, errW_some] <;> rfl) | (simp [*, errW_none, errW_some] <;> rfl), by (with_reducible repeat (first | apply Kd.R_alloc | apply Kd.R_drewN | apply Kd.R_drew)); exact HO165.out, by repeat (first | (with_reducible first | exact HB.out | apply below_alloc | apply pw_below_drewN | apply below_drew1 | refine below_set ?_ GE162.out) | exact HB.out)⟩
  · rw [if_neg c3] at H
    have c3b0 : (a0 == 2) = false := beq_eq_false_iff_ne.mpr c3
    have c3b1 : (a0 != 2) = true := bne_iff_ne.mpr c3
    by_cases c8 : a0 = 3
    · rw [if_pos c8] at H
      have c8b0 : (a0 == 3) = true := beq_iff_eq.mpr c8
      have c8b1 : (a0 != 3) = false := bne_eq_false_iff_eq.mpr c8
      clear c8
      obtain ⟨y166, hy166⟩ : ∃ y_ : List Int, y_ = (([a1_4, a1_2, a1_5] : List Int)) := ⟨_, rfl⟩
      replace H : (some y166) = some r := by first | (rw [hy166]; with_reducible exact H) | (have H2_ := (Option.bind_some _ _).symm.trans H; rw [hy166]; with_reducible exact H2_) | (have H2_ := (Option.bind_some _ _).symm.trans H; with_reducible exact H2_) | with_reducible exact H | (rw [hy166]; exact H) | exact H
      have Ny166 := Aside0.mk hy166
      clear hy166
      obtain rfl := Option.some.inj H
      go_enter Try.func18, Try.ntmps18
      go_wp2_with (first | ((with_reducible refine gate_dst (N := 3) rfl ?_); refine box_event ?hg (N := 3) ?hd (cs := #[.int .u32 a1_0, .int .u32 a1_1, .int .u32 a1_2, .int .u32 a1_3, .int .u32 a1_4, .int .u32 a1_5, .int .u32 a1_6]) (t := 24) ?hr ?_; (case hd => rfl); (case hg => rfl); (case hr => first | (go_simp; done) | (go_simp; rfl)); intro gb162 hg w9 hbox hb; have n0_ := Aside0.mk (below_step (by repeat (first | (with_reducible first | exact HB.out | apply below_alloc | apply pw_below_drewN | apply below_drew1) | exact HB.out)) hb); have n1_ := Aside0.mk (hbox); have n2_ := Aside0.mk ((by rw [hg]; exact (below_size (by repeat (first | (with_reducible first | exact HB.out | apply below_alloc | apply pw_below_drewN | apply below_drew1) | exact HB.out))) : w.heap.size ≤ gb162)); have n3_ := Aside0.mk ((by rw [hg]; exact (below_size (by repeat (first | (with_reducible first | exact HB.out | apply below_alloc | apply pw_below_drewN | apply below_drew1) | exact HB.out))) : w.heap.size ≤ gb162)); clear HB; have HB := n0_; have BK162 := n1_; have GW162 := n2_; have GE162 := n3_; clear n0_ n1_ n2_ n3_; clear hb hbox hg; have hcz10_0 : w9.cell? ⟨gb162, 0, none⟩ = some (.int .u32 a1_0) := (blk_cell BK162.out 0).trans rfl; have hcz10_1 : w9.cell? ⟨gb162, 1, none⟩ = some (.int .u32 a1_1) := (blk_cell BK162.out 1).trans rfl; have hcz10_2 : w9.cell? ⟨gb162, 2, none⟩ = some (.int .u32 a1_2) := (blk_cell BK162.out 2).trans rfl; have hcz10_3 : w9.cell? ⟨gb162, 3, none⟩ = some (.int .u32 a1_3) := (blk_cell BK162.out 3).trans rfl; have hcz10_4 : w9.cell? ⟨gb162, 4, none⟩ = some (.int .u32 a1_4) := (blk_cell BK162.out 4).trans rfl; have hcz10_5 : w9.cell? ⟨gb162, 5, none⟩ = some (.int .u32 a1_5) := (blk_cell BK162.out 5).trans rfl; have hcz10_6 : w9.cell? ⟨gb162, 6, none⟩ = some (.int .u32 a1_6) := (blk_cell BK162.out 6).trans rfl; have hfz10_0 := blk_frozen BK162.out 0; have hfz10_1 := blk_frozen BK162.out 1; have hfz10_2 := blk_frozen BK162.out 2; have hfz10_3 := blk_frozen BK162.out 3; have hfz10_4 := blk_frozen BK162.out 4; have hfz10_5 := blk_frozen BK162.out 5; have hfz10_6 := blk_frozen BK162.out 6) | ((with_reducible refine gate_dst (N := 27) rfl ?_); refine Kd.R_lit (Kd.int .u32) _ 22 ?hg (N := 27) ?hd (xs := ([a1_4, a1_2, a1_5] : List Int)) (inner := [.int .u32 a1_4, .int .u32 a1_2, .int .u32 a1_5]) (ok := fun _ => True) (okp := fun _ => True) ?hr ?hp (fun _ hk => hk) trivial (Below.refl _ _) (Nat.le_refl _) (by simp) ?_; (case hd => rfl); (case hg => rfl); (case hr => first | (go_simp; done) | (go_simp; rfl)); (case hp => exact (Reps.one (show Kd.M (Kd.int .u32) _ _ _ a1_4 [.int .u32 a1_4] from rfl) (Reps.one (show Kd.M (Kd.int .u32) _ _ _ a1_2 [.int .u32 a1_2] from rfl) (Reps.one (show Kd.M (Kd.int .u32) _ _ _ a1_5 [.int .u32 a1_5] from rfl) (Reps.none _ _))))); intro v167 w11 ho12 hb hg_ hnew_; clear hg_ hnew_; (first | rw [← Ny166.out] at ho12 | (simp only [Int.reduceToNat] at ho12; rw [← Ny166.out] at ho12)); have n0_ := Aside0.mk (Kd.R_lower ho12 (below_size (by repeat (first | (with_reducible first | exact HB.out | apply below_alloc | apply pw_below_drewN | apply below_drew1 | refine below_set ?_ GE162.out) | exact HB.out)))); have n1_ := Aside0.mk (blk_below (g := gb162) (o := .cells #[.int .u32 a1_0, .int .u32 a1_1, .int .u32 a1_2, .int .u32 a1_3, .int .u32 a1_4, .int .u32 a1_5, .int .u32 a1_6] 24 (0, 0)) (by (with_reducible repeat (first | refine blk_drewN ?_ _ | refine blk_drew ?_ | refine blk_alloc ?_ _)); exact BK162.out) hb); have n2_ := Aside0.mk (below_step (by repeat (first | (with_reducible first | exact HB.out | apply below_alloc | apply pw_below_drewN | apply below_drew1 | refine below_set ?_ GE162.out) | exact HB.out)) hb); clear BK162; clear HB; have HO168 := n0_; have BK162 := n1_; have HB := n2_; clear n0_ n1_ n2_; clear hb ho12))
      go_ret
      exact ⟨_, by first | rfl | (simp [errW_none, errW_some] <;> rfl) | (simp [*, errW_none, errW_some] <;> rfl), by (with_reducible repeat (first | apply Kd.R_alloc | apply Kd.R_drewN | apply Kd.R_drew)); exact HO168.out, by repeat (first | (with_reducible first | exact HB.out | apply below_alloc | apply pw_below_drewN | apply below_drew1 | refine below_set ?_ GE162.out) | exact HB.out)⟩
    · rw [if_neg c8] at H
      have c8b0 : (a0 == 3) = false := beq_eq_false_iff_ne.mpr c8
      have c8b1 : (a0 != 3) = true := bne_iff_ne.mpr c8
      have HC13 := Aside0.mk H
      clear H
      go_enter Try.func18, Try.ntmps18
      go_upto_if 28 with (first | ((with_reducible refine gate_dst (N := 3) rfl ?_); refine box_event ?hg (N := 3) ?hd (cs := #[.int .u32 a1_0, .int .u32 a1_1, .int .u32 a1_2, .int .u32 a1_3, .int .u32 a1_4, .int .u32 a1_5, .int .u32 a1_6]) (t := 24) ?hr ?_; (case hd => rfl); (case hg => rfl); (case hr => first | (go_simp; done) | (go_simp; rfl)); intro gb162 hg w14 hbox hb; have n0_ := Aside0.mk (below_step (by repeat (first | (with_reducible first | exact HB.out | apply below_alloc | apply pw_below_drewN | apply below_drew1) | exact HB.out)) hb); have n1_ := Aside0.mk (hbox); have n2_ := Aside0.mk ((by rw [hg]; exact (below_size (by repeat (first | (with_reducible first | exact HB.out | apply below_alloc | apply pw_below_drewN | apply below_drew1) | exact HB.out))) : w.heap.size ≤ gb162)); have n3_ := Aside0.mk ((by rw [hg]; exact (below_size (by repeat (first | (with_reducible first | exact HB.out | apply below_alloc | apply pw_below_drewN | apply below_drew1) | exact HB.out))) : w.heap.size ≤ gb162)); clear HB; have HB := n0_; have BK162 := n1_; have GW162 := n2_; have GE162 := n3_; clear n0_ n1_ n2_ n3_; clear hb hbox hg))
      (try simp only [Act.put, List.setIfInBounds_toArray, List.set_cons_zero, List.set_cons_succ])
      go_cut [28] (fun v28 wc => ∃ (kq : Nat) (x28_12 : Bool), v28 = .bool x28_12 ∧ Aside0 (chamberlainref11_words.j0 kq a0 x28_12 a1_0 a1_1 a1_2 a1_3 a1_4 a1_5 a1_6 = some r) ∧ Aside0 (kq ≤ k) ∧ Aside0 (wc.heap[gb162]? = some (.cells #[.int .u32 a1_0, .int .u32 a1_1, .int .u32 a1_2, .int .u32 a1_3, .int .u32 a1_4, .int .u32 a1_5, .int .u32 a1_6] 24 (0, 0))) ∧ Aside0 (Below w.heap.size w wc))
      case first =>
        have H := HC13.out
        clear HC13
        by_cases c15 : a0 = 4
        · rw [if_pos c15] at H
          have c15b0 : (a0 == 4) = true := beq_iff_eq.mpr c15
          have c15b1 : (a0 != 4) = false := bne_eq_false_iff_eq.mpr c15
          clear c15
          (first | rw [c15b0] | (simp only [i64_w, i32_w]; rw [c15b0]) | skip)
          have H' := Aside0.mk H
          clear H
          go_wp2
          go_meet
          case rel => exact ⟨_, ((a0 == 4)), (by first | rfl | (simp; done) | (simp [*]; done)), H', ⟨by first | omega | exact Nat.le_refl _⟩, ⟨by (with_reducible repeat (first | refine blk_drewN ?_ _ | refine blk_drew ?_ | refine blk_alloc ?_ _)); exact BK162.out⟩, ⟨by repeat (first | (with_reducible first | exact HB.out | apply below_alloc | apply pw_below_drewN | apply below_drew1 | refine below_set ?_ GE162.out) | exact HB.out)⟩⟩
        · rw [if_neg c15] at H
          have c15b0 : (a0 == 4) = false := beq_eq_false_iff_ne.mpr c15
          have c15b1 : (a0 != 4) = true := bne_iff_ne.mpr c15
          (first | rw [c15b0] | (simp only [i64_w, i32_w]; rw [c15b0]) | skip)
          have H' := Aside0.mk H
          clear H
          go_wp2
          go_meet
          case rel => exact ⟨_, ((a0 == 5)), (by first | rfl | (simp; done) | (simp [*]; done)), H', ⟨by first | omega | exact Nat.le_refl _⟩, ⟨by (with_reducible repeat (first | refine blk_drewN ?_ _ | refine blk_drew ?_ | refine blk_alloc ?_ _)); exact BK162.out⟩, ⟨by repeat (first | (with_reducible first | exact HB.out | apply below_alloc | apply pw_below_drewN | apply below_drew1 | refine below_set ?_ GE162.out) | exact HB.out)⟩⟩
      case rest =>
        clear HC13
        try clear c1
        try clear p2
        try clear c3
        try clear c3b0
        try clear c3b1
        try clear c8
        try clear c8b0
        try clear c8b1
        try clear c15
        try clear c15b0
        try clear c15b1
        try clear hcz10_0
        try clear hcz10_1
        try clear hcz10_2
        try clear hcz10_3
        try clear hcz10_4
        try clear hcz10_5
        try clear hcz10_6
        try clear hcz5_0
        try clear hcz5_1
        try clear hcz5_2
        try clear hcz5_3
        try clear hcz5_4
        try clear hcz5_5
        try clear hcz5_6
        try clear hfz10_0
        try clear hfz10_1
        try clear hfz10_2
        try clear hfz10_3
        try clear hfz10_4
        try clear hfz10_5
        try clear hfz10_6
        try clear hfz5_0
        try clear hfz5_1
        try clear hfz5_2
        try clear hfz5_3
        try clear hfz5_4
        try clear hfz5_5
        try clear hfz5_6
        obtain ⟨kq, x28_12, rfl, HA, HJ12, BK162, HB⟩ := hcut
        cases kq with
        | zero => exact absurd HA.out (by simp [chamberlainref11_words.j0])
        | succ kj12 =>
          have H := HA.out
          clear HA
          simp only [chamberlainref11_words.j0] at H
          by_cases c16 : x28_12 = true
          · subst c16
            have H1 : (some (([a1_0] : List Int))) = some r := by rw [if_pos rfl] at H; exact H
            clear H
            have H := H1
            clear H1
            obtain ⟨y169, hy169⟩ : ∃ y_ : List Int, y_ = (([a1_0] : List Int)) := ⟨_, rfl⟩
            replace H : (some y169) = some r := by first | (rw [hy169]; with_reducible exact H) | (have H2_ := (Option.bind_some _ _).symm.trans H; rw [hy169]; with_reducible exact H2_) | (have H2_ := (Option.bind_some _ _).symm.trans H; with_reducible exact H2_) | with_reducible exact H | (rw [hy169]; exact H) | exact H
            have Ny169 := Aside0.mk hy169
            clear hy169
            obtain rfl := Option.some.inj H
            have hcz17_0 : wc.cell? ⟨gb162, 0, none⟩ = some (.int .u32 a1_0) := (blk_cell BK162.out 0).trans rfl
            have hcz17_1 : wc.cell? ⟨gb162, 1, none⟩ = some (.int .u32 a1_1) := (blk_cell BK162.out 1).trans rfl
            have hcz17_2 : wc.cell? ⟨gb162, 2, none⟩ = some (.int .u32 a1_2) := (blk_cell BK162.out 2).trans rfl
            have hcz17_3 : wc.cell? ⟨gb162, 3, none⟩ = some (.int .u32 a1_3) := (blk_cell BK162.out 3).trans rfl
            have hcz17_4 : wc.cell? ⟨gb162, 4, none⟩ = some (.int .u32 a1_4) := (blk_cell BK162.out 4).trans rfl
            have hcz17_5 : wc.cell? ⟨gb162, 5, none⟩ = some (.int .u32 a1_5) := (blk_cell BK162.out 5).trans rfl
            have hcz17_6 : wc.cell? ⟨gb162, 6, none⟩ = some (.int .u32 a1_6) := (blk_cell BK162.out 6).trans rfl
            have hfz17_0 := blk_frozen BK162.out 0
            have hfz17_1 := blk_frozen BK162.out 1
            have hfz17_2 := blk_frozen BK162.out 2
            have hfz17_3 := blk_frozen BK162.out 3
            have hfz17_4 := blk_frozen BK162.out 4
            have hfz17_5 := blk_frozen BK162.out 5
            have hfz17_6 := blk_frozen BK162.out 6
            go_wp2_with (first | ((with_reducible refine gate_dst (N := 33) rfl ?_); refine Kd.R_lit (Kd.int .u32) _ 22 ?hg (N := 33) ?hd (xs := ([a1_0] : List Int)) (inner := [.int .u32 a1_0]) (ok := fun _ => True) (okp := fun _ => True) ?hr ?hp (fun _ hk => hk) trivial (Below.refl _ _) (Nat.le_refl _) (by simp) ?_; (case hd => rfl); (case hg => rfl); (case hr => first | (go_simp; done) | (go_simp; rfl)); (case hp => exact (Reps.one (show Kd.M (Kd.int .u32) _ _ _ a1_0 [.int .u32 a1_0] from rfl) (Reps.none _ _))); intro v170 w18 ho19 hb hg_ hnew_; clear hg_ hnew_; (first | rw [← Ny169.out] at ho19 | (simp only [Int.reduceToNat] at ho19; rw [← Ny169.out] at ho19)); have n0_ := Aside0.mk (Kd.R_lower ho19 (below_size (by repeat (first | (with_reducible first | exact HB.out | apply below_alloc | apply pw_below_drewN | apply below_drew1 | refine below_set ?_ GE162.out) | exact HB.out)))); have n1_ := Aside0.mk (blk_below (g := gb162) (o := .cells #[.int .u32 a1_0, .int .u32 a1_1, .int .u32 a1_2, .int .u32 a1_3, .int .u32 a1_4, .int .u32 a1_5, .int .u32 a1_6] 24 (0, 0)) (by (with_reducible repeat (first | refine blk_drewN ?_ _ | refine blk_drew ?_ | refine blk_alloc ?_ _)); exact BK162.out) hb); have n2_ := Aside0.mk (below_step (by repeat (first | (with_reducible first | exact HB.out | apply below_alloc | apply pw_below_drewN | apply below_drew1 | refine below_set ?_ GE162.out) | exact HB.out)) hb); clear BK162; clear HB; have HO171 := n0_; have BK162 := n1_; have HB := n2_; clear n0_ n1_ n2_; clear hb ho19))
            go_ret
            exact ⟨_, by first | rfl | (simp [errW_none, errW_some] <;> rfl) | (simp [*, errW_none, errW_some] <;> rfl), by (with_reducible repeat (first | apply Kd.R_alloc | apply Kd.R_drewN | apply Kd.R_drew)); exact HO171.out, by repeat (first | (with_reducible first | exact HB.out | apply below_alloc | apply pw_below_drewN | apply below_drew1 | refine below_set ?_ GE162.out) | exact HB.out)⟩
          · replace c16 := Bool.eq_false_iff.mpr c16
            subst c16
            have H1 : (if a0 = 6 then (chamberlainref11_words.j1 kj12 a0 (a0 == 6) a1_0 a1_1 a1_2 a1_3 a1_4 a1_5 a1_6) else (chamberlainref11_words.j1 kj12 a0 (a0 == 7) a1_0 a1_1 a1_2 a1_3 a1_4 a1_5 a1_6)) = some r := by rw [if_neg (show ¬ (false = true) by decide)] at H; exact H
            clear H
            have H := H1
            clear H1
            have HC20 := Aside0.mk H
            clear H
            go_upto_if 34 with (fail)
            go_cut [34] (fun v34 wc => ∃ (kq : Nat) (x34_19 : Bool), v34 = .bool x34_19 ∧ Aside0 (chamberlainref11_words.j1 kq a0 x34_19 a1_0 a1_1 a1_2 a1_3 a1_4 a1_5 a1_6 = some r) ∧ Aside0 (kq ≤ kj12) ∧ Aside0 (wc.heap[gb162]? = some (.cells #[.int .u32 a1_0, .int .u32 a1_1, .int .u32 a1_2, .int .u32 a1_3, .int .u32 a1_4, .int .u32 a1_5, .int .u32 a1_6] 24 (0, 0))) ∧ Aside0 (Below w.heap.size w wc))
            case first =>
              have H := HC20.out
              clear HC20
              by_cases c21 : a0 = 6
              · rw [if_pos c21] at H
                have c21b0 : (a0 == 6) = true := beq_iff_eq.mpr c21
                have c21b1 : (a0 != 6) = false := bne_eq_false_iff_eq.mpr c21
                clear c21
                (first | rw [c21b0] | (simp only [i64_w, i32_w]; rw [c21b0]) | skip)
                have H' := Aside0.mk H
                clear H
                go_wp2
                go_meet
                case rel => exact ⟨_, ((a0 == 6)), (by first | rfl | (simp; done) | (simp [*]; done)), H', ⟨by have := HJ12.out; first | omega | exact Nat.le_refl _⟩, ⟨by (with_reducible repeat (first | refine blk_drewN ?_ _ | refine blk_drew ?_ | refine blk_alloc ?_ _)); exact BK162.out⟩, ⟨by repeat (first | (with_reducible first | exact HB.out | apply below_alloc | apply pw_below_drewN | apply below_drew1 | refine below_set ?_ GE162.out) | exact HB.out)⟩⟩
              · rw [if_neg c21] at H
                have c21b0 : (a0 == 6) = false := beq_eq_false_iff_ne.mpr c21
                have c21b1 : (a0 != 6) = true := bne_iff_ne.mpr c21
                (first | rw [c21b0] | (simp only [i64_w, i32_w]; rw [c21b0]) | skip)
                have H' := Aside0.mk H
                clear H
                go_wp2
                go_meet
                case rel => exact ⟨_, ((a0 == 7)), (by first | rfl | (simp; done) | (simp [*]; done)), H', ⟨by have := HJ12.out; first | omega | exact Nat.le_refl _⟩, ⟨by (with_reducible repeat (first | refine blk_drewN ?_ _ | refine blk_drew ?_ | refine blk_alloc ?_ _)); exact BK162.out⟩, ⟨by repeat (first | (with_reducible first | exact HB.out | apply below_alloc | apply pw_below_drewN | apply below_drew1 | refine below_set ?_ GE162.out) | exact HB.out)⟩⟩
            case rest =>
              clear HC20
              try clear c1
              try clear c2
              try clear p2
              try clear c3
              try clear c3b0
              try clear c3b1
              try clear c8
              try clear c8b0
              try clear c8b1
              try clear c15
              try clear c15b0
              try clear c15b1
              try clear c16
              try clear c18
              try clear c21
              try clear c21b0
              try clear c21b1
              try clear hcz10_0
              try clear hcz10_1
              try clear hcz10_2
              try clear hcz10_3
              try clear hcz10_4
              try clear hcz10_5
              try clear hcz10_6
              try clear hcz17_0
              try clear hcz17_1
              try clear hcz17_2
              try clear hcz17_3
              try clear hcz17_4
              try clear hcz17_5
              try clear hcz17_6
              try clear hcz5_0
              try clear hcz5_1
              try clear hcz5_2
              try clear hcz5_3
              try clear hcz5_4
              try clear hcz5_5
              try clear hcz5_6
              try clear hfz10_0
              try clear hfz10_1
              try clear hfz10_2
              try clear hfz10_3
              try clear hfz10_4
              try clear hfz10_5
              try clear hfz10_6
              try clear hfz17_0
              try clear hfz17_1
              try clear hfz17_2
              try clear hfz17_3
              try clear hfz17_4
              try clear hfz17_5
              try clear hfz17_6
              try clear hfz5_0
              try clear hfz5_1
              try clear hfz5_2
              try clear hfz5_3
              try clear hfz5_4
              try clear hfz5_5
              try clear hfz5_6
              try clear p2
              obtain ⟨kq, x34_19, rfl, HA, HJ19, BK162, HB⟩ := hcut
              cases kq with
              | zero => exact absurd HA.out (by simp [chamberlainref11_words.j1])
              | succ kj19 =>
                have H := HA.out
                clear HA
                simp only [chamberlainref11_words.j1] at H
                by_cases c22 : x34_19 = true
                · subst c22
                  have H1 : (some (([a1_0, a1_1, a1_2, a1_3] : List Int))) = some r := by rw [if_pos rfl] at H; exact H
                  clear H
                  have H := H1
                  clear H1
                  obtain ⟨y172, hy172⟩ : ∃ y_ : List Int, y_ = (([a1_0, a1_1, a1_2, a1_3] : List Int)) := ⟨_, rfl⟩
                  replace H : (some y172) = some r := by first | (rw [hy172]; with_reducible exact H) | (have H2_ := (Option.bind_some _ _).symm.trans H; rw [hy172]; with_reducible exact H2_) | (have H2_ := (Option.bind_some _ _).symm.trans H; with_reducible exact H2_) | with_reducible exact H | (rw [hy172]; exact H) | exact H
                  have Ny172 := Aside0.mk hy172
                  clear hy172
                  obtain rfl := Option.some.inj H
                  have hcz23_0 : wc.cell? ⟨gb162, 0, none⟩ = some (.int .u32 a1_0) := (blk_cell BK162.out 0).trans rfl
                  have hcz23_1 : wc.cell? ⟨gb162, 1, none⟩ = some (.int .u32 a1_1) := (blk_cell BK162.out 1).trans rfl
                  have hcz23_2 : wc.cell? ⟨gb162, 2, none⟩ = some (.int .u32 a1_2) := (blk_cell BK162.out 2).trans rfl
                  have hcz23_3 : wc.cell? ⟨gb162, 3, none⟩ = some (.int .u32 a1_3) := (blk_cell BK162.out 3).trans rfl
                  have hcz23_4 : wc.cell? ⟨gb162, 4, none⟩ = some (.int .u32 a1_4) := (blk_cell BK162.out 4).trans rfl
                  have hcz23_5 : wc.cell? ⟨gb162, 5, none⟩ = some (.int .u32 a1_5) := (blk_cell BK162.out 5).trans rfl
                  have hcz23_6 : wc.cell? ⟨gb162, 6, none⟩ = some (.int .u32 a1_6) := (blk_cell BK162.out 6).trans rfl
                  have hfz23_0 := blk_frozen BK162.out 0
                  have hfz23_1 := blk_frozen BK162.out 1
                  have hfz23_2 := blk_frozen BK162.out 2
                  have hfz23_3 := blk_frozen BK162.out 3
                  have hfz23_4 := blk_frozen BK162.out 4
                  have hfz23_5 := blk_frozen BK162.out 5
                  have hfz23_6 := blk_frozen BK162.out 6
                  go_wp2_with (first | ((with_reducible refine gate_dst (N := 45) rfl ?_); refine Kd.R_lit (Kd.int .u32) _ 22 ?hg (N := 45) ?hd (xs := ([a1_0, a1_1, a1_2, a1_3] : List Int)) (inner := [.int .u32 a1_0, .int .u32 a1_1, .int .u32 a1_2, .int .u32 a1_3]) (ok := fun _ => True) (okp := fun _ => True) ?hr ?hp (fun _ hk => hk) trivial (Below.refl _ _) (Nat.le_refl _) (by simp) ?_; (case hd => rfl); (case hg => rfl); (case hr => first | (go_simp; done) | (go_simp; rfl)); (case hp => exact (Reps.one (show Kd.M (Kd.int .u32) _ _ _ a1_0 [.int .u32 a1_0] from rfl) (Reps.one (show Kd.M (Kd.int .u32) _ _ _ a1_1 [.int .u32 a1_1] from rfl) (Reps.one (show Kd.M (Kd.int .u32) _ _ _ a1_2 [.int .u32 a1_2] from rfl) (Reps.one (show Kd.M (Kd.int .u32) _ _ _ a1_3 [.int .u32 a1_3] from rfl) (Reps.none _ _)))))); intro v173 w24 ho25 hb hg_ hnew_; clear hg_ hnew_; (first | rw [← Ny172.out] at ho25 | (simp only [Int.reduceToNat] at ho25; rw [← Ny172.out] at ho25)); have n0_ := Aside0.mk (Kd.R_lower ho25 (below_size (by repeat (first | (with_reducible first | exact HB.out | apply below_alloc | apply pw_below_drewN | apply below_drew1 | refine below_set ?_ GE162.out) | exact HB.out)))); have n1_ := Aside0.mk (blk_below (g := gb162) (o := .cells #[.int .u32 a1_0, .int .u32 a1_1, .int .u32 a1_2, .int .u32 a1_3, .int .u32 a1_4, .int .u32 a1_5, .int .u32 a1_6] 24 (0, 0)) (by (with_reducible repeat (first | refine blk_drewN ?_ _ | refine blk_drew ?_ | refine blk_alloc ?_ _)); exact BK162.out) hb); have n2_ := Aside0.mk (below_step (by repeat (first | (with_reducible first | exact HB.out | apply below_alloc | apply pw_below_drewN | apply below_drew1 | refine below_set ?_ GE162.out) | exact HB.out)) hb); clear BK162; clear HB; have HO174 := n0_; have BK162 := n1_; have HB := n2_; clear n0_ n1_ n2_; clear hb ho25))
                  go_ret
                  exact ⟨_, by first | rfl | (simp [errW_none, errW_some] <;> rfl) | (simp [*, errW_none, errW_some] <;> rfl), by (with_reducible repeat (first | apply Kd.R_alloc | apply Kd.R_drewN | apply Kd.R_drew)); exact HO174.out, by repeat (first | (with_reducible first | exact HB.out | apply below_alloc | apply pw_below_drewN | apply below_drew1 | refine below_set ?_ GE162.out) | exact HB.out)⟩
                · replace c22 := Bool.eq_false_iff.mpr c22
                  subst c22
                  have H1 : (if a0 = 8 then (some (([a1_0, a1_4] : List Int))) else (if a0 = 9 then (some (([a1_0, a1_4] : List Int))) else (some ([] : List Int)))) = some r := by rw [if_neg (show ¬ (false = true) by decide)] at H; exact H
                  clear H
                  have H := H1
                  clear H1
                  by_cases c26 : a0 = 8
                  · rw [if_pos c26] at H
                    have c26b0 : (a0 == 8) = true := beq_iff_eq.mpr c26
                    have c26b1 : (a0 != 8) = false := bne_eq_false_iff_eq.mpr c26
                    clear c26
                    obtain ⟨y175, hy175⟩ : ∃ y_ : List Int, y_ = (([a1_0, a1_4] : List Int)) := ⟨_, rfl⟩
                    replace H : (some y175) = some r := by first | (rw [hy175]; with_reducible exact H) | (have H2_ := (Option.bind_some _ _).symm.trans H; rw [hy175]; with_reducible exact H2_) | (have H2_ := (Option.bind_some _ _).symm.trans H; with_reducible exact H2_) | with_reducible exact H | (rw [hy175]; exact H) | exact H
                    have Ny175 := Aside0.mk hy175
                    clear hy175
                    obtain rfl := Option.some.inj H
                    have hcz27_0 : wc.cell? ⟨gb162, 0, none⟩ = some (.int .u32 a1_0) := (blk_cell BK162.out 0).trans rfl
                    have hcz27_1 : wc.cell? ⟨gb162, 1, none⟩ = some (.int .u32 a1_1) := (blk_cell BK162.out 1).trans rfl
                    have hcz27_2 : wc.cell? ⟨gb162, 2, none⟩ = some (.int .u32 a1_2) := (blk_cell BK162.out 2).trans rfl
                    have hcz27_3 : wc.cell? ⟨gb162, 3, none⟩ = some (.int .u32 a1_3) := (blk_cell BK162.out 3).trans rfl
                    have hcz27_4 : wc.cell? ⟨gb162, 4, none⟩ = some (.int .u32 a1_4) := (blk_cell BK162.out 4).trans rfl
                    have hcz27_5 : wc.cell? ⟨gb162, 5, none⟩ = some (.int .u32 a1_5) := (blk_cell BK162.out 5).trans rfl
                    have hcz27_6 : wc.cell? ⟨gb162, 6, none⟩ = some (.int .u32 a1_6) := (blk_cell BK162.out 6).trans rfl
                    have hfz27_0 := blk_frozen BK162.out 0
                    have hfz27_1 := blk_frozen BK162.out 1
                    have hfz27_2 := blk_frozen BK162.out 2
                    have hfz27_3 := blk_frozen BK162.out 3
                    have hfz27_4 := blk_frozen BK162.out 4
                    have hfz27_5 := blk_frozen BK162.out 5
                    have hfz27_6 := blk_frozen BK162.out 6
                    go_wp2_with (first | ((with_reducible refine gate_dst (N := 53) rfl ?_); refine Kd.R_lit (Kd.int .u32) _ 22 ?hg (N := 53) ?hd (xs := ([a1_0, a1_4] : List Int)) (inner := [.int .u32 a1_0, .int .u32 a1_4]) (ok := fun _ => True) (okp := fun _ => True) ?hr ?hp (fun _ hk => hk) trivial (Below.refl _ _) (Nat.le_refl _) (by simp) ?_; (case hd => rfl); (case hg => rfl); (case hr => first | (go_simp; done) | (go_simp; rfl)); (case hp => exact (Reps.one (show Kd.M (Kd.int .u32) _ _ _ a1_0 [.int .u32 a1_0] from rfl) (Reps.one (show Kd.M (Kd.int .u32) _ _ _ a1_4 [.int .u32 a1_4] from rfl) (Reps.none _ _)))); intro v176 w28 ho29 hb hg_ hnew_; clear hg_ hnew_; (first | rw [← Ny175.out] at ho29 | (simp only [Int.reduceToNat] at ho29; rw [← Ny175.out] at ho29)); have n0_ := Aside0.mk (Kd.R_lower ho29 (below_size (by repeat (first | (with_reducible first | exact HB.out | apply below_alloc | apply pw_below_drewN | apply below_drew1 | refine below_set ?_ GE162.out) | exact HB.out)))); have n1_ := Aside0.mk (blk_below (g := gb162) (o := .cells #[.int .u32 a1_0, .int .u32 a1_1, .int .u32 a1_2, .int .u32 a1_3, .int .u32 a1_4, .int .u32 a1_5, .int .u32 a1_6] 24 (0, 0)) (by (with_reducible repeat (first | refine blk_drewN ?_ _ | refine blk_drew ?_ | refine blk_alloc ?_ _)); exact BK162.out) hb); have n2_ := Aside0.mk (below_step (by repeat (first | (with_reducible first | exact HB.out | apply below_alloc | apply pw_below_drewN | apply below_drew1 | refine below_set ?_ GE162.out) | exact HB.out)) hb); clear BK162; clear HB; have HO177 := n0_; have BK162 := n1_; have HB := n2_; clear n0_ n1_ n2_; clear hb ho29))
                    go_ret
                    exact ⟨_, by first | rfl | (simp [errW_none, errW_some] <;> rfl) | (simp [*, errW_none, errW_some] <;> rfl), by (with_reducible repeat (first | apply Kd.R_alloc | apply Kd.R_drewN | apply Kd.R_drew)); exact HO177.out, by repeat (first | (with_reducible first | exact HB.out | apply below_alloc | apply pw_below_drewN | apply below_drew1 | refine below_set ?_ GE162.out) | exact HB.out)⟩
                  · rw [if_neg c26] at H
                    have c26b0 : (a0 == 8) = false := beq_eq_false_iff_ne.mpr c26
                    have c26b1 : (a0 != 8) = true := bne_iff_ne.mpr c26
                    by_cases c30 : a0 = 9
                    · rw [if_pos c30] at H
                      have c30b0 : (a0 == 9) = true := beq_iff_eq.mpr c30
                      have c30b1 : (a0 != 9) = false := bne_eq_false_iff_eq.mpr c30
                      clear c30
                      obtain ⟨y178, hy178⟩ : ∃ y_ : List Int, y_ = (([a1_0, a1_4] : List Int)) := ⟨_, rfl⟩
                      replace H : (some y178) = some r := by first | (rw [hy178]; with_reducible exact H) | (have H2_ := (Option.bind_some _ _).symm.trans H; rw [hy178]; with_reducible exact H2_) | (have H2_ := (Option.bind_some _ _).symm.trans H; with_reducible exact H2_) | with_reducible exact H | (rw [hy178]; exact H) | exact H
                      have Ny178 := Aside0.mk hy178
                      clear hy178
                      obtain rfl := Option.some.inj H
                      have hcz31_0 : wc.cell? ⟨gb162, 0, none⟩ = some (.int .u32 a1_0) := (blk_cell BK162.out 0).trans rfl
                      have hcz31_1 : wc.cell? ⟨gb162, 1, none⟩ = some (.int .u32 a1_1) := (blk_cell BK162.out 1).trans rfl
                      have hcz31_2 : wc.cell? ⟨gb162, 2, none⟩ = some (.int .u32 a1_2) := (blk_cell BK162.out 2).trans rfl
                      have hcz31_3 : wc.cell? ⟨gb162, 3, none⟩ = some (.int .u32 a1_3) := (blk_cell BK162.out 3).trans rfl
                      have hcz31_4 : wc.cell? ⟨gb162, 4, none⟩ = some (.int .u32 a1_4) := (blk_cell BK162.out 4).trans rfl
                      have hcz31_5 : wc.cell? ⟨gb162, 5, none⟩ = some (.int .u32 a1_5) := (blk_cell BK162.out 5).trans rfl
                      have hcz31_6 : wc.cell? ⟨gb162, 6, none⟩ = some (.int .u32 a1_6) := (blk_cell BK162.out 6).trans rfl
                      have hfz31_0 := blk_frozen BK162.out 0
                      have hfz31_1 := blk_frozen BK162.out 1
                      have hfz31_2 := blk_frozen BK162.out 2
                      have hfz31_3 := blk_frozen BK162.out 3
                      have hfz31_4 := blk_frozen BK162.out 4
                      have hfz31_5 := blk_frozen BK162.out 5
                      have hfz31_6 := blk_frozen BK162.out 6
                      go_wp2_with (first | ((with_reducible refine gate_dst (N := 53) rfl ?_); refine Kd.R_lit (Kd.int .u32) _ 22 ?hg (N := 53) ?hd (xs := ([a1_0, a1_4] : List Int)) (inner := [.int .u32 a1_0, .int .u32 a1_4]) (ok := fun _ => True) (okp := fun _ => True) ?hr ?hp (fun _ hk => hk) trivial (Below.refl _ _) (Nat.le_refl _) (by simp) ?_; (case hd => rfl); (case hg => rfl); (case hr => first | (go_simp; done) | (go_simp; rfl)); (case hp => exact (Reps.one (show Kd.M (Kd.int .u32) _ _ _ a1_0 [.int .u32 a1_0] from rfl) (Reps.one (show Kd.M (Kd.int .u32) _ _ _ a1_4 [.int .u32 a1_4] from rfl) (Reps.none _ _)))); intro v179 w32 ho33 hb hg_ hnew_; clear hg_ hnew_; (first | rw [← Ny178.out] at ho33 | (simp only [Int.reduceToNat] at ho33; rw [← Ny178.out] at ho33)); have n0_ := Aside0.mk (Kd.R_lower ho33 (below_size (by repeat (first | (with_reducible first | exact HB.out | apply below_alloc | apply pw_below_drewN | apply below_drew1 | refine below_set ?_ GE162.out) | exact HB.out)))); have n1_ := Aside0.mk (blk_below (g := gb162) (o := .cells #[.int .u32 a1_0, .int .u32 a1_1, .int .u32 a1_2, .int .u32 a1_3, .int .u32 a1_4, .int .u32 a1_5, .int .u32 a1_6] 24 (0, 0)) (by (with_reducible repeat (first | refine blk_drewN ?_ _ | refine blk_drew ?_ | refine blk_alloc ?_ _)); exact BK162.out) hb); have n2_ := Aside0.mk (below_step (by repeat (first | (with_reducible first | exact HB.out | apply below_alloc | apply pw_below_drewN | apply below_drew1 | refine below_set ?_ GE162.out) | exact HB.out)) hb); clear BK162; clear HB; have HO180 := n0_; have BK162 := n1_; have HB := n2_; clear n0_ n1_ n2_; clear hb ho33))
                      go_ret
                      exact ⟨_, by first | rfl | (simp [errW_none, errW_some] <;> rfl) | (simp [*, errW_none, errW_some] <;> rfl), by (with_reducible repeat (first | apply Kd.R_alloc | apply Kd.R_drewN | apply Kd.R_drew)); exact HO180.out, by repeat (first | (with_reducible first | exact HB.out | apply below_alloc | apply pw_below_drewN | apply below_drew1 | refine below_set ?_ GE162.out) | exact HB.out)⟩
                    · rw [if_neg c30] at H
                      have c30b0 : (a0 == 9) = false := beq_eq_false_iff_ne.mpr c30
                      have c30b1 : (a0 != 9) = true := bne_iff_ne.mpr c30
                      obtain rfl := Option.some.inj H
                      go_wp2
                      go_ret
                      exact ⟨_, by first | rfl | (simp [errW_none, errW_some] <;> rfl) | (simp [*, errW_none, errW_some] <;> rfl), by first | exact Kd.R_nil _ _ _ _ _ | exact Kd.N_nil _ _ _ _ _ | exact Kd.V_nil _ _ _ _ _ | exact Kd.Q_nil _ _ _ _ _ | exact Kd.S_nil _ _ _ _ _, by repeat (first | (with_reducible first | exact HB.out | apply below_alloc | apply pw_below_drewN | apply below_drew1 | refine below_set ?_ GE162.out) | exact HB.out)⟩

end Go.Proofs.Ytpbmmompbknimaa.PPartGets
