-- Written for this claim by wip/tools/myprint.py (print.py's forms; proofs of the faked functions by hand).
import Derived.Test.YtifdlpnpbicahaaPBoxIdealx0
import Derived.Test.YtifdlpnpbicahaaPBoxIdealx1
import Derived.Test.YtifdlpnpbicahaaPBoxIdealx2
import Derived.Test.YtifdlpnpbicahaaPBoxIdealx3
import Derived.Test.YtifdlpnpbicahaaPBoxIdealx4
import Derived.Test.YtifdlpnpbicahaaPBoxIdealx5
namespace Go.Proofs.Ytifdlpnpbicahaa.PBoxIdeal
open Go.RowKit Go.Proofs.YtifdlpnpbicahaaW.PrintWords Go.Proofs.YtifdlpnpbicahaaW.PrintLast Go.Proofs.YtifdlpnpbicahaaW.PrintMore
attribute [local go_sem] max2_int min2_int max_two min_two max_three min_three max_four min_four   -- for this text's walks alone
set_option linter.unusedVariables false
set_option linter.unusedSimpArgs false

/-! ### chamberlainlaw07_BoxIdeal: function 4 -/
mutual
def chamberlainlaw07_BoxIdeal.j0 : Nat → Int → Int → Int → List Int → Int → Int → Int → Bool → Int → List (S43) → Option (Bool)
  | 0, _, _, _, _, _, _, _, _, _, _ => none
  | k + 1, x1, x2, x3, x4, x5, x6, x7, x36, x241000, x241001 => if x36 = true then ((chamberlainlaw07_awake.f k).bind fun t243 => (some t243)) else ((box_Seal.f x241000 x241001 x1 x2 x3 x4).bind fun bt244 => ((box_Open.f x241000 x241001 x6 x7 x5).bind fun bt250 => ((box_Open.f bt244.1 bt244.2.1 x6 x7 x5).bind fun bt254 => (if bt244.2.2 = 0 then ((box_Open.f bt244.1 bt244.2.1 x2 x3 x1).bind fun bt260 => (if bt260.2 = true then ((chamberlainref01_Same.f k bt260.1 x4).bind fun t264 => (if t264 = true then ((box_Right.f bt244.1 bt244.2.1).bind fun t265 => (chamberlainlaw07_BoxIdeal.j1 k x1 x2 x3 x5 x6 x7 bt250.1 bt250.2 bt254.1 bt254.2 (!t265))) else (chamberlainlaw07_BoxIdeal.j1 k x1 x2 x3 x5 x6 x7 bt250.1 bt250.2 bt254.1 bt254.2 true))) else (chamberlainlaw07_BoxIdeal.j1 k x1 x2 x3 x5 x6 x7 bt250.1 bt250.2 bt254.1 bt254.2 true))) else ((chamberlainref07_Same.f k bt244.1 bt244.2.1 x241000 x241001).bind fun t258 => (if t258 = true then (if (bt250.2 == bt254.2) = true then ((chamberlainref01_Same.f k bt250.1 bt254.1).bind fun t259 => (some t259)) else (some false)) else (some false)))))))
def chamberlainlaw07_BoxIdeal.j1 : Nat → Int → Int → Int → Int → Int → Int → List Int → Bool → List Int → Bool → Bool → Option (Bool)
  | 0, _, _, _, _, _, _, _, _, _, _, _ => none
  | k + 1, x1, x2, x3, x5, x6, x7, x19, x20, x21, x22, x98 => if x98 = true then (some false) else (if x5 = x1 then (if x20 = true then (some false) else (if x6 = x2 then (some (x22 == (x7 == x3))) else (some (x22 == false)))) else (if (x20 == x22) = true then ((chamberlainref01_Same.f k x19 x21).bind fun t266 => (some t266)) else (some false)))
end
def chamberlainlaw07_BoxIdeal.f (k : Nat) (a0_0 : Int) (l0_1 : List (S43)) (a1 : Int) (a2 : Int) (a3 : Int) (l4 : List Int) (a5 : Int) (a6 : Int) (a7 : Int) : Option (Bool) := (chamberlainlaw07_awake.f k).bind fun t241 => (if t241 = true then ((chamberlainlaw07_fits.f k a0_0 l0_1).bind fun t242 => (if t242 = true then (chamberlainlaw07_BoxIdeal.j0 k a1 a2 a3 l4 a5 a6 a7 (decide ((l4.length : Int) > 64)) a0_0 l0_1) else (chamberlainlaw07_BoxIdeal.j0 k a1 a2 a3 l4 a5 a6 a7 true a0_0 l0_1))) else (chamberlainlaw07_BoxIdeal.j0 k a1 a2 a3 l4 a5 a6 a7 true a0_0 l0_1))
theorem chamberlainlaw07_BoxIdeal.mono_l : ∀ k, (∀ y0 y1 y2 y3 y4 y5 y6 y7 y8 y9, LeO (chamberlainlaw07_BoxIdeal.j0 k y0 y1 y2 y3 y4 y5 y6 y7 y8 y9) (chamberlainlaw07_BoxIdeal.j0 (k + 1) y0 y1 y2 y3 y4 y5 y6 y7 y8 y9)) ∧ (∀ y0 y1 y2 y3 y4 y5 y6 y7 y8 y9 y10, LeO (chamberlainlaw07_BoxIdeal.j1 k y0 y1 y2 y3 y4 y5 y6 y7 y8 y9 y10) (chamberlainlaw07_BoxIdeal.j1 (k + 1) y0 y1 y2 y3 y4 y5 y6 y7 y8 y9 y10))
  | 0 => ⟨fun _ _ _ _ _ _ _ _ _ _ r h => by simp [chamberlainlaw07_BoxIdeal.j0] at h, fun _ _ _ _ _ _ _ _ _ _ _ r h => by simp [chamberlainlaw07_BoxIdeal.j1] at h⟩
  | k + 1 => by
    obtain ⟨ih0, ih1⟩ := chamberlainlaw07_BoxIdeal.mono_l k
    refine ⟨?_, ?_⟩
    · intro y0 y1 y2 y3 y4 y5 y6 y7 y8 y9
      unfold chamberlainlaw07_BoxIdeal.j0
      repeat' first
      | (with_reducible exact ih0 _ _ _ _ _ _ _ _ _ _)
      | (with_reducible exact ih1 _ _ _ _ _ _ _ _ _ _ _)
      | (with_reducible exact chamberlainlaw07_awake.mono _)
      | (with_reducible exact chamberlainlaw07_fits.mono _ _ _)
      | (with_reducible exact chamberlainref01_Same.mono _ _ _)
      | (with_reducible exact chamberlainref07_Same.mono _ _ _ _ _)
      | (with_reducible exact LeO.refl _)
      | (with_reducible exact LeO.none _)
      | (with_reducible refine LeO.ite ?_ ?_)
      | (with_reducible refine LeO.bind ?_ (fun _ => ?_))
      | exact ih0 _ _ _ _ _ _ _ _ _ _
      | exact ih1 _ _ _ _ _ _ _ _ _ _ _
      | exact chamberlainlaw07_awake.mono _
      | exact chamberlainlaw07_fits.mono _ _ _
      | exact chamberlainref01_Same.mono _ _ _
      | exact chamberlainref07_Same.mono _ _ _ _ _
      | exact LeO.none _
      | refine LeO.ite ?_ ?_
      | refine LeO.bind ?_ (fun _ => ?_)
    · intro y0 y1 y2 y3 y4 y5 y6 y7 y8 y9 y10
      unfold chamberlainlaw07_BoxIdeal.j1
      repeat' first
      | (with_reducible exact ih0 _ _ _ _ _ _ _ _ _ _)
      | (with_reducible exact ih1 _ _ _ _ _ _ _ _ _ _ _)
      | (with_reducible exact chamberlainlaw07_awake.mono _)
      | (with_reducible exact chamberlainlaw07_fits.mono _ _ _)
      | (with_reducible exact chamberlainref01_Same.mono _ _ _)
      | (with_reducible exact chamberlainref07_Same.mono _ _ _ _ _)
      | (with_reducible exact LeO.refl _)
      | (with_reducible exact LeO.none _)
      | (with_reducible refine LeO.ite ?_ ?_)
      | (with_reducible refine LeO.bind ?_ (fun _ => ?_))
      | exact ih0 _ _ _ _ _ _ _ _ _ _
      | exact ih1 _ _ _ _ _ _ _ _ _ _ _
      | exact chamberlainlaw07_awake.mono _
      | exact chamberlainlaw07_fits.mono _ _ _
      | exact chamberlainref01_Same.mono _ _ _
      | exact chamberlainref07_Same.mono _ _ _ _ _
      | exact LeO.none _
      | refine LeO.ite ?_ ?_
      | refine LeO.bind ?_ (fun _ => ?_)
theorem chamberlainlaw07_BoxIdeal.mono : ∀ a0 a1 a2 a3 a4 a5 a6 a7 a8 k, LeO (chamberlainlaw07_BoxIdeal.f k a0 a1 a2 a3 a4 a5 a6 a7 a8) (chamberlainlaw07_BoxIdeal.f (k + 1) a0 a1 a2 a3 a4 a5 a6 a7 a8) := by
  intro a0 a1 a2 a3 a4 a5 a6 a7 a8 k
  obtain ⟨ih0, ih1⟩ := chamberlainlaw07_BoxIdeal.mono_l k
  unfold chamberlainlaw07_BoxIdeal.f
  repeat' first
      | (with_reducible exact ih0 _ _ _ _ _ _ _ _ _ _)
      | (with_reducible exact ih1 _ _ _ _ _ _ _ _ _ _ _)
      | (with_reducible exact chamberlainlaw07_awake.mono _)
      | (with_reducible exact chamberlainlaw07_fits.mono _ _ _)
      | (with_reducible exact chamberlainref01_Same.mono _ _ _)
      | (with_reducible exact chamberlainref07_Same.mono _ _ _ _ _)
      | (with_reducible exact LeO.refl _)
      | (with_reducible exact LeO.none _)
      | (with_reducible refine LeO.ite ?_ ?_)
      | (with_reducible refine LeO.bind ?_ (fun _ => ?_))
      | exact ih0 _ _ _ _ _ _ _ _ _ _
      | exact ih1 _ _ _ _ _ _ _ _ _ _ _
      | exact chamberlainlaw07_awake.mono _
      | exact chamberlainlaw07_fits.mono _ _ _
      | exact chamberlainref01_Same.mono _ _ _
      | exact chamberlainref07_Same.mono _ _ _ _ _
      | exact LeO.none _
      | refine LeO.ite ?_ ?_
      | refine LeO.bind ?_ (fun _ => ?_)
set_option maxHeartbeats 8000000 in
set_option maxRecDepth 100000 in
theorem chamberlainlaw07_BoxIdeal.calls (k : Nat) (a0_0 : Int) (A0_1 : Option Addr) (c0_1 : Nat) (l0_1 : List (S43)) (a1 : Int) (a2 : Int) (a3 : Int) (A4 : Option Addr) (c4 : Nat) (l4 : List Int) (a5 : Int) (a6 : Int) (a7 : Int) (r : Bool) (w : World) (hr0_1 : Kd.C k43 w A0_1 l0_1.length l0_1) (hc0_1 : l0_1.length ≤ c0_1) (hr4 : Kd.C (Kd.int .u32) w A4 l4.length l4) (hc4 : l4.length ≤ c4) (h : chamberlainlaw07_BoxIdeal.f k a0_0 l0_1 a1 a2 a3 l4 a5 a6 a7 = some r) (hT0 : r = true) :
    Calls Try.prog 4 #[.agg #[.int .i64 a0_0, .slice A0_1 l0_1.length c0_1], .int .u32 a1, .int .u32 a2, .int .u32 a3, .slice A4 l4.length c4, .int .u32 a5, .int .u32 a6, .int .u32 a7] w fun e w' => e = .returned (.bool r) ∧ Below w.heap.size w w' := by
  have hT := Aside0.mk hT0
  clear hT0
  have hu24 := Try.underlying24
  have HR0_1 := Aside0.mk hr0_1
  have HC0_1 := Aside0.mk hc0_1
  clear hr0_1 hc0_1
  have HR4 := Aside0.mk hr4
  have HC4 := Aside0.mk hc4
  clear hr4 hc4
  have HB := Aside0.mk (Below.refl w.heap.size w)
  have H : ((chamberlainlaw07_awake.f k).bind fun t241 => (if t241 = true then ((chamberlainlaw07_fits.f k a0_0 l0_1).bind fun t242 => (if t242 = true then (chamberlainlaw07_BoxIdeal.j0 k a1 a2 a3 l4 a5 a6 a7 (decide ((l4.length : Int) > 64)) a0_0 l0_1) else (chamberlainlaw07_BoxIdeal.j0 k a1 a2 a3 l4 a5 a6 a7 true a0_0 l0_1))) else (chamberlainlaw07_BoxIdeal.j0 k a1 a2 a3 l4 a5 a6 a7 true a0_0 l0_1))) = some r := h
  clear h
  have HC9 := Aside0.mk H
  clear H
  go_enter Try.func4, Try.ntmps4
  go_upto_region 1 with (first | ((with_reducible refine gate_dst (N := 8) rfl ?_); (try (refine gate_guard (by rfl) ?_; dsimp only)); refine box_event ?hg (N := 8) ?hd (cs := #[.int .i64 a0_0, .slice A0_1 l0_1.length c0_1]) (t := 24) ?hr ?_; (case hd => rfl); (case hg => rfl); (case hr => first | (go_simp; done) | (go_simp; rfl)); intro gb240 hg w10 hbox hb; have n0_ := Aside0.mk (below_step (by repeat (first | (with_reducible first | exact HB.out | apply below_alloc | apply pw_below_drewN | apply below_drew1) | exact HB.out)) hb); have n1_ := Aside0.mk (hbox); have n2_ := Aside0.mk ((by rw [hg]; exact (below_size (by repeat (first | (with_reducible first | exact HB.out | apply below_alloc | apply pw_below_drewN | apply below_drew1) | exact HB.out))) : w.heap.size ≤ gb240)); have n3_ := Aside0.mk ((by rw [hg]; exact (below_size (by repeat (first | (with_reducible first | exact HB.out | apply below_alloc | apply pw_below_drewN | apply below_drew1) | exact HB.out))) : w.heap.size ≤ gb240)); clear HB; have HB := n0_; have BK240 := n1_; have GW240 := n2_; have GE240 := n3_; clear n0_ n1_ n2_ n3_; clear hb hbox hg))
  (try simp only [Act.put, List.setIfInBounds_toArray, List.set_cons_zero, List.set_cons_succ])
  go_cut [36] (fun v36 wc => ∃ (kq : Nat) (x36_8 : Bool), v36 = .bool x36_8 ∧ Aside0 (chamberlainlaw07_BoxIdeal.j0 kq a1 a2 a3 l4 a5 a6 a7 x36_8 a0_0 l0_1 = some r) ∧ Aside0 (kq ≤ k) ∧ Aside0 (wc.heap[gb240]? = some (.cells #[.int .i64 a0_0, (.slice A0_1 l0_1.length c0_1)] 24 (0, 0))) ∧ Aside0 (Below w.heap.size w wc))
  case first =>
    have H := HC9.out
    clear HC9
    replace H := Option.bind_eq_some_iff.mp H
    obtain ⟨t241, A110, H⟩ := H
    replace H : (if t241 = true then ((chamberlainlaw07_fits.f k a0_0 l0_1).bind fun t242 => (if t242 = true then (chamberlainlaw07_BoxIdeal.j0 k a1 a2 a3 l4 a5 a6 a7 (decide ((l4.length : Int) > 64)) a0_0 l0_1) else (chamberlainlaw07_BoxIdeal.j0 k a1 a2 a3 l4 a5 a6 a7 true a0_0 l0_1))) else (chamberlainlaw07_BoxIdeal.j0 k a1 a2 a3 l4 a5 a6 a7 true a0_0 l0_1)) = some r := H
    have A11 := Aside0.mk A110
    clear A110
    by_cases c12 : t241 = true
    · subst c12
      have H1 : ((chamberlainlaw07_fits.f k a0_0 l0_1).bind fun t242 => (if t242 = true then (chamberlainlaw07_BoxIdeal.j0 k a1 a2 a3 l4 a5 a6 a7 (decide ((l4.length : Int) > 64)) a0_0 l0_1) else (chamberlainlaw07_BoxIdeal.j0 k a1 a2 a3 l4 a5 a6 a7 true a0_0 l0_1))) = some r := by rw [if_pos rfl] at H; exact H
      clear H
      have H := H1
      clear H1
      replace H := Option.bind_eq_some_iff.mp H
      obtain ⟨t242, A130, H⟩ := H
      replace H : (if t242 = true then (chamberlainlaw07_BoxIdeal.j0 k a1 a2 a3 l4 a5 a6 a7 (decide ((l4.length : Int) > 64)) a0_0 l0_1) else (chamberlainlaw07_BoxIdeal.j0 k a1 a2 a3 l4 a5 a6 a7 true a0_0 l0_1)) = some r := H
      have A13 := Aside0.mk A130
      clear A130
      by_cases c14 : t242 = true
      · subst c14
        have H1 : (chamberlainlaw07_BoxIdeal.j0 k a1 a2 a3 l4 a5 a6 a7 (decide ((l4.length : Int) > 64)) a0_0 l0_1) = some r := by rw [if_pos rfl] at H; exact H
        clear H
        have H := H1
        clear H1
        have H' := Aside0.mk H
        clear H
        go_wp2_with (first | ((with_reducible refine gate_callee (f := 8) rfl ?_); refine goesL_ (some 25) rfl rfl Try.func8 (by kernel_rfl) rfl #[] rfl (by (try simp only [List.map_toArray, List.map_cons, List.map_nil]); first | done | rfl | (simp only [List.length_drop, List.length_take]; rfl)) ?_; (with_reducible refine (chamberlainlaw07_awake.calls k  true _ A11.out).mono ?_); rintro e w15 ⟨rfl, hb⟩; refine ⟨_, rfl, ?_⟩; have n0_ := Aside0.mk (blk_below (g := gb240) (o := .cells #[.int .i64 a0_0, .slice A0_1 l0_1.length c0_1] 24 (0, 0)) (by (with_reducible repeat (first | refine blk_drewN ?_ _ | refine blk_drew ?_ | refine blk_alloc ?_ _)); exact BK240.out) hb); have n1_ := Aside0.mk (below_step (by repeat (first | (with_reducible first | exact HB.out | apply below_alloc | apply pw_below_drewN | apply below_drew1 | refine below_set ?_ GE240.out) | exact HB.out)) hb); clear BK240; clear HB; have BK240 := n0_; have HB := n1_; clear n0_ n1_; (try clear hb); (try clear hb2); (try clear hk); (try clear hi); have hcz16_0 : w15.cell? ⟨gb240, 0, none⟩ = some (.int .i64 a0_0) := (blk_cell BK240.out 0).trans rfl; have hcz16_1 : w15.cell? ⟨gb240, 1, none⟩ = some (.slice A0_1 l0_1.length c0_1) := (blk_cell BK240.out 1).trans rfl; have hfz16_0 := blk_frozen BK240.out 0; have hfz16_1 := blk_frozen BK240.out 1) | (go_at_call 19; (with_reducible refine (chamberlainlaw07_fits.calls k a0_0 _ _ l0_1 true _ ?side1 ?side2 A13.out).mono ?_); (case side1 => repeat (first | exact (Kd.C_below HR0_1.out HB.out) | (with_reducible refine Kd.C_alloc ?_ _) | (with_reducible refine Kd.C_drewN ?_ _) | (with_reducible refine Kd.C_drew ?_))); (case side2 => exact HC0_1.out); rintro e w17 ⟨rfl, hb⟩; have n0_ := Aside0.mk (blk_below (g := gb240) (o := .cells #[.int .i64 a0_0, .slice A0_1 l0_1.length c0_1] 24 (0, 0)) (by (with_reducible repeat (first | refine blk_drewN ?_ _ | refine blk_drew ?_ | refine blk_alloc ?_ _)); exact BK240.out) hb); have n1_ := Aside0.mk (below_step (by repeat (first | (with_reducible first | exact HB.out | apply below_alloc | apply pw_below_drewN | apply below_drew1 | refine below_set ?_ GE240.out) | exact HB.out)) hb); clear BK240; clear HB; have BK240 := n0_; have HB := n1_; clear n0_ n1_; (try clear hb); (try clear hb2); (try clear hk); (try clear hi)))
        go_meet
        case rel => exact ⟨_, (decide ((l4.length : Int) > 64)), (by first | rfl | (simp; done) | (simp [*]; done)), H', ⟨by first | omega | exact Nat.le_refl _⟩, ⟨by (with_reducible repeat (first | refine blk_drewN ?_ _ | refine blk_drew ?_ | refine blk_alloc ?_ _)); exact BK240.out⟩, ⟨by repeat (first | (with_reducible first | exact HB.out | apply below_alloc | apply pw_below_drewN | apply below_drew1 | refine below_set ?_ GE240.out) | exact HB.out)⟩⟩
      · replace c14 := Bool.eq_false_iff.mpr c14
        subst c14
        have H1 : (chamberlainlaw07_BoxIdeal.j0 k a1 a2 a3 l4 a5 a6 a7 true a0_0 l0_1) = some r := by rw [if_neg (show ¬ (false = true) by decide)] at H; exact H
        clear H
        have H := H1
        clear H1
        have H' := Aside0.mk H
        clear H
        go_wp2_with (first | ((with_reducible refine gate_callee (f := 8) rfl ?_); refine goesL_ (some 25) rfl rfl Try.func8 (by kernel_rfl) rfl #[] rfl (by (try simp only [List.map_toArray, List.map_cons, List.map_nil]); first | done | rfl | (simp only [List.length_drop, List.length_take]; rfl)) ?_; (with_reducible refine (chamberlainlaw07_awake.calls k  true _ A11.out).mono ?_); rintro e w18 ⟨rfl, hb⟩; refine ⟨_, rfl, ?_⟩; have n0_ := Aside0.mk (blk_below (g := gb240) (o := .cells #[.int .i64 a0_0, .slice A0_1 l0_1.length c0_1] 24 (0, 0)) (by (with_reducible repeat (first | refine blk_drewN ?_ _ | refine blk_drew ?_ | refine blk_alloc ?_ _)); exact BK240.out) hb); have n1_ := Aside0.mk (below_step (by repeat (first | (with_reducible first | exact HB.out | apply below_alloc | apply pw_below_drewN | apply below_drew1 | refine below_set ?_ GE240.out) | exact HB.out)) hb); clear BK240; clear HB; have BK240 := n0_; have HB := n1_; clear n0_ n1_; (try clear hb); (try clear hb2); (try clear hk); (try clear hi); have hcz19_0 : w18.cell? ⟨gb240, 0, none⟩ = some (.int .i64 a0_0) := (blk_cell BK240.out 0).trans rfl; have hcz19_1 : w18.cell? ⟨gb240, 1, none⟩ = some (.slice A0_1 l0_1.length c0_1) := (blk_cell BK240.out 1).trans rfl; have hfz19_0 := blk_frozen BK240.out 0; have hfz19_1 := blk_frozen BK240.out 1) | (go_at_call 19; (with_reducible refine (chamberlainlaw07_fits.calls k a0_0 _ _ l0_1 false _ ?side1 ?side2 A13.out).mono ?_); (case side1 => repeat (first | exact (Kd.C_below HR0_1.out HB.out) | (with_reducible refine Kd.C_alloc ?_ _) | (with_reducible refine Kd.C_drewN ?_ _) | (with_reducible refine Kd.C_drew ?_))); (case side2 => exact HC0_1.out); rintro e w20 ⟨rfl, hb⟩; have n0_ := Aside0.mk (blk_below (g := gb240) (o := .cells #[.int .i64 a0_0, .slice A0_1 l0_1.length c0_1] 24 (0, 0)) (by (with_reducible repeat (first | refine blk_drewN ?_ _ | refine blk_drew ?_ | refine blk_alloc ?_ _)); exact BK240.out) hb); have n1_ := Aside0.mk (below_step (by repeat (first | (with_reducible first | exact HB.out | apply below_alloc | apply pw_below_drewN | apply below_drew1 | refine below_set ?_ GE240.out) | exact HB.out)) hb); clear BK240; clear HB; have BK240 := n0_; have HB := n1_; clear n0_ n1_; (try clear hb); (try clear hb2); (try clear hk); (try clear hi)))
        go_meet
        case rel => exact ⟨_, (true), (by first | rfl | (simp; done) | (simp [*]; done)), H', ⟨by first | omega | exact Nat.le_refl _⟩, ⟨by (with_reducible repeat (first | refine blk_drewN ?_ _ | refine blk_drew ?_ | refine blk_alloc ?_ _)); exact BK240.out⟩, ⟨by repeat (first | (with_reducible first | exact HB.out | apply below_alloc | apply pw_below_drewN | apply below_drew1 | refine below_set ?_ GE240.out) | exact HB.out)⟩⟩
    · replace c12 := Bool.eq_false_iff.mpr c12
      subst c12
      have H1 : (chamberlainlaw07_BoxIdeal.j0 k a1 a2 a3 l4 a5 a6 a7 true a0_0 l0_1) = some r := by rw [if_neg (show ¬ (false = true) by decide)] at H; exact H
      clear H
      have H := H1
      clear H1
      have H' := Aside0.mk H
      clear H
      go_wp2_with (first | ((with_reducible refine gate_callee (f := 8) rfl ?_); refine goesL_ (some 25) rfl rfl Try.func8 (by kernel_rfl) rfl #[] rfl (by (try simp only [List.map_toArray, List.map_cons, List.map_nil]); first | done | rfl | (simp only [List.length_drop, List.length_take]; rfl)) ?_; (with_reducible refine (chamberlainlaw07_awake.calls k  false _ A11.out).mono ?_); rintro e w21 ⟨rfl, hb⟩; refine ⟨_, rfl, ?_⟩; have n0_ := Aside0.mk (blk_below (g := gb240) (o := .cells #[.int .i64 a0_0, .slice A0_1 l0_1.length c0_1] 24 (0, 0)) (by (with_reducible repeat (first | refine blk_drewN ?_ _ | refine blk_drew ?_ | refine blk_alloc ?_ _)); exact BK240.out) hb); have n1_ := Aside0.mk (below_step (by repeat (first | (with_reducible first | exact HB.out | apply below_alloc | apply pw_below_drewN | apply below_drew1 | refine below_set ?_ GE240.out) | exact HB.out)) hb); clear BK240; clear HB; have BK240 := n0_; have HB := n1_; clear n0_ n1_; (try clear hb); (try clear hb2); (try clear hk); (try clear hi)))
      go_meet
      case rel => exact ⟨_, (true), (by first | rfl | (simp; done) | (simp [*]; done)), H', ⟨by first | omega | exact Nat.le_refl _⟩, ⟨by (with_reducible repeat (first | refine blk_drewN ?_ _ | refine blk_drew ?_ | refine blk_alloc ?_ _)); exact BK240.out⟩, ⟨by repeat (first | (with_reducible first | exact HB.out | apply below_alloc | apply pw_below_drewN | apply below_drew1 | refine below_set ?_ GE240.out) | exact HB.out)⟩⟩
  case rest =>
    clear HC9
    try clear c1
    try clear p2
    try clear c4
    try clear c8
    try clear c12
    try clear c14
    try clear hcz16_0
    try clear hcz16_1
    try clear hcz19_0
    try clear hcz19_1
    try clear hfz16_0
    try clear hfz16_1
    try clear hfz19_0
    try clear hfz19_1
    obtain ⟨kq, x36_8, rfl, HA, HJ8, BK240, HB⟩ := hcut
    cases kq with
    | zero => exact absurd HA.out (by simp [chamberlainlaw07_BoxIdeal.j0])
    | succ kj8 =>
      have H := HA.out
      clear HA
      simp only [chamberlainlaw07_BoxIdeal.j0] at H
      by_cases c22 : x36_8 = true
      · subst c22
        have H1 : ((chamberlainlaw07_awake.f kj8).bind fun t243 => (some t243)) = some r := by rw [if_pos rfl] at H; exact H
        clear H
        have H := H1
        clear H1
        replace H := Option.bind_eq_some_iff.mp H
        obtain ⟨t243, A230, H⟩ := H
        replace H : (some t243) = some r := H
        have A23 := Aside0.mk A230
        clear A230
        obtain rfl := Option.some.inj H
        go_wp2_with (first | ((with_reducible refine gate_callee (f := 8) rfl ?_); refine goesL_ (some 37) rfl rfl Try.func8 (by kernel_rfl) rfl #[] rfl (by (try simp only [List.map_toArray, List.map_cons, List.map_nil]); first | done | rfl | (simp only [List.length_drop, List.length_take]; rfl)) ?_; (with_reducible refine (chamberlainlaw07_awake.calls kj8  t243 _ A23.out).mono ?_); rintro e w24 ⟨rfl, hb⟩; refine ⟨_, rfl, ?_⟩; have n0_ := Aside0.mk (blk_below (g := gb240) (o := .cells #[.int .i64 a0_0, .slice A0_1 l0_1.length c0_1] 24 (0, 0)) (by (with_reducible repeat (first | refine blk_drewN ?_ _ | refine blk_drew ?_ | refine blk_alloc ?_ _)); exact BK240.out) hb); have n1_ := Aside0.mk (below_step (by repeat (first | (with_reducible first | exact HB.out | apply below_alloc | apply pw_below_drewN | apply below_drew1 | refine below_set ?_ GE240.out) | exact HB.out)) hb); clear BK240; clear HB; have BK240 := n0_; have HB := n1_; clear n0_ n1_; (try clear hb); (try clear hb2); (try clear hk); (try clear hi)))
        go_ret
        exact ⟨by first | rfl | (simp [errW_none, errW_some] <;> rfl) | (simp [*, errW_none, errW_some] <;> rfl), by repeat (first | (with_reducible first | exact HB.out | apply below_alloc | apply pw_below_drewN | apply below_drew1 | refine below_set ?_ GE240.out) | exact HB.out)⟩
      · replace c22 := Bool.eq_false_iff.mpr c22
        subst c22
        have H1 : ((box_Seal.f a0_0 l0_1 a1 a2 a3 l4).bind fun bt244 => ((box_Open.f a0_0 l0_1 a6 a7 a5).bind fun bt250 => ((box_Open.f bt244.1 bt244.2.1 a6 a7 a5).bind fun bt254 => (if bt244.2.2 = 0 then ((box_Open.f bt244.1 bt244.2.1 a2 a3 a1).bind fun bt260 => (if bt260.2 = true then ((chamberlainref01_Same.f kj8 bt260.1 l4).bind fun t264 => (if t264 = true then ((box_Right.f bt244.1 bt244.2.1).bind fun t265 => (chamberlainlaw07_BoxIdeal.j1 kj8 a1 a2 a3 a5 a6 a7 bt250.1 bt250.2 bt254.1 bt254.2 (!t265))) else (chamberlainlaw07_BoxIdeal.j1 kj8 a1 a2 a3 a5 a6 a7 bt250.1 bt250.2 bt254.1 bt254.2 true))) else (chamberlainlaw07_BoxIdeal.j1 kj8 a1 a2 a3 a5 a6 a7 bt250.1 bt250.2 bt254.1 bt254.2 true))) else ((chamberlainref07_Same.f kj8 bt244.1 bt244.2.1 a0_0 l0_1).bind fun t258 => (if t258 = true then (if (bt250.2 == bt254.2) = true then ((chamberlainref01_Same.f kj8 bt250.1 bt254.1).bind fun t259 => (some t259)) else (some false)) else (some false))))))) = some r := by rw [if_neg (show ¬ (false = true) by decide)] at H; exact H
        clear H
        have H := H1
        clear H1
        replace H := Option.bind_eq_some_iff.mp H
        obtain ⟨⟨t244, t245, t248⟩, A250, H⟩ := H
        replace H : ((box_Open.f a0_0 l0_1 a6 a7 a5).bind fun bt250 => ((box_Open.f t244 t245 a6 a7 a5).bind fun bt254 => (if t248 = 0 then ((box_Open.f t244 t245 a2 a3 a1).bind fun bt260 => (if bt260.2 = true then ((chamberlainref01_Same.f kj8 bt260.1 l4).bind fun t264 => (if t264 = true then ((box_Right.f t244 t245).bind fun t265 => (chamberlainlaw07_BoxIdeal.j1 kj8 a1 a2 a3 a5 a6 a7 bt250.1 bt250.2 bt254.1 bt254.2 (!t265))) else (chamberlainlaw07_BoxIdeal.j1 kj8 a1 a2 a3 a5 a6 a7 bt250.1 bt250.2 bt254.1 bt254.2 true))) else (chamberlainlaw07_BoxIdeal.j1 kj8 a1 a2 a3 a5 a6 a7 bt250.1 bt250.2 bt254.1 bt254.2 true))) else ((chamberlainref07_Same.f kj8 t244 t245 a0_0 l0_1).bind fun t258 => (if t258 = true then (if (bt250.2 == bt254.2) = true then ((chamberlainref01_Same.f kj8 bt250.1 bt254.1).bind fun t259 => (some t259)) else (some false)) else (some false)))))) = some r := H
        have A25 := Aside0.mk A250
        clear A250
        replace H := Option.bind_eq_some_iff.mp H
        obtain ⟨⟨t250, t253⟩, A260, H⟩ := H
        replace H : ((box_Open.f t244 t245 a6 a7 a5).bind fun bt254 => (if t248 = 0 then ((box_Open.f t244 t245 a2 a3 a1).bind fun bt260 => (if bt260.2 = true then ((chamberlainref01_Same.f kj8 bt260.1 l4).bind fun t264 => (if t264 = true then ((box_Right.f t244 t245).bind fun t265 => (chamberlainlaw07_BoxIdeal.j1 kj8 a1 a2 a3 a5 a6 a7 t250 t253 bt254.1 bt254.2 (!t265))) else (chamberlainlaw07_BoxIdeal.j1 kj8 a1 a2 a3 a5 a6 a7 t250 t253 bt254.1 bt254.2 true))) else (chamberlainlaw07_BoxIdeal.j1 kj8 a1 a2 a3 a5 a6 a7 t250 t253 bt254.1 bt254.2 true))) else ((chamberlainref07_Same.f kj8 t244 t245 a0_0 l0_1).bind fun t258 => (if t258 = true then (if (t253 == bt254.2) = true then ((chamberlainref01_Same.f kj8 t250 bt254.1).bind fun t259 => (some t259)) else (some false)) else (some false))))) = some r := H
        have A26 := Aside0.mk A260
        clear A260
        replace H := Option.bind_eq_some_iff.mp H
        obtain ⟨⟨t254, t257⟩, A270, H⟩ := H
        replace H : (if t248 = 0 then ((box_Open.f t244 t245 a2 a3 a1).bind fun bt260 => (if bt260.2 = true then ((chamberlainref01_Same.f kj8 bt260.1 l4).bind fun t264 => (if t264 = true then ((box_Right.f t244 t245).bind fun t265 => (chamberlainlaw07_BoxIdeal.j1 kj8 a1 a2 a3 a5 a6 a7 t250 t253 t254 t257 (!t265))) else (chamberlainlaw07_BoxIdeal.j1 kj8 a1 a2 a3 a5 a6 a7 t250 t253 t254 t257 true))) else (chamberlainlaw07_BoxIdeal.j1 kj8 a1 a2 a3 a5 a6 a7 t250 t253 t254 t257 true))) else ((chamberlainref07_Same.f kj8 t244 t245 a0_0 l0_1).bind fun t258 => (if t258 = true then (if (t253 == t257) = true then ((chamberlainref01_Same.f kj8 t250 t254).bind fun t259 => (some t259)) else (some false)) else (some false)))) = some r := H
        have A27 := Aside0.mk A270
        clear A270
        by_cases c28 : t248 = 0
        · rw [if_pos c28] at H
          have c28b0 : (t248 == 0) = true := beq_iff_eq.mpr c28
          have c28b1 : (t248 != 0) = false := bne_eq_false_iff_eq.mpr c28
          clear c28
          replace H := Option.bind_eq_some_iff.mp H
          obtain ⟨⟨t260, t263⟩, A290, H⟩ := H
          replace H : (if t263 = true then ((chamberlainref01_Same.f kj8 t260 l4).bind fun t264 => (if t264 = true then ((box_Right.f t244 t245).bind fun t265 => (chamberlainlaw07_BoxIdeal.j1 kj8 a1 a2 a3 a5 a6 a7 t250 t253 t254 t257 (!t265))) else (chamberlainlaw07_BoxIdeal.j1 kj8 a1 a2 a3 a5 a6 a7 t250 t253 t254 t257 true))) else (chamberlainlaw07_BoxIdeal.j1 kj8 a1 a2 a3 a5 a6 a7 t250 t253 t254 t257 true)) = some r := H
          have A29 := Aside0.mk A290
          clear A290
          have HC30 := Aside0.mk H
          clear H
          have hcz31_0 : wc.cell? ⟨gb240, 0, none⟩ = some (.int .i64 a0_0) := (blk_cell BK240.out 0).trans rfl
          have hcz31_1 : wc.cell? ⟨gb240, 1, none⟩ = some (.slice A0_1 l0_1.length c0_1) := (blk_cell BK240.out 1).trans rfl
          have hfz31_0 := blk_frozen BK240.out 0
          have hfz31_1 := blk_frozen BK240.out 1
          go_upto_region 9 with (first | ((with_reducible refine gate_callee (f := 12) rfl ?_); refine goesL_ (some 44) rfl rfl Try.func12 (by kernel_rfl) rfl #[.agg #[.int .i64 a0_0, .slice A0_1 l0_1.length c0_1], .int .u32 a1, .int .u32 a2, .int .u32 a3, .slice A4 l4.length c4] rfl (by (try simp only [List.map_toArray, List.map_cons, List.map_nil]); first | done | rfl | (simp only [List.length_drop, List.length_take]; rfl)) ?_; (with_reducible refine (box_Seal.calls a0_0 (fun k_ => k_ < w.heap.size) _ _ l0_1 a1 a2 a3 _ _ l4 t244 t245 t248 _ ?side1 ?side2 ?side3 A25.out).mono ?_); (case side1 => exact Kd.V_mk HC0_1.out (Kd.F_below (Kd.C_F k43_heap HR0_1.out) (by repeat (first | (with_reducible first | exact HB.out | apply below_alloc | apply pw_below_drewN | apply below_drew1 | refine below_set ?_ GE240.out) | exact HB.out)))); (case side2 => repeat (first | exact (Kd.C_below HR4.out HB.out) | (with_reducible refine Kd.C_alloc ?_ _) | (with_reducible refine Kd.C_drewN ?_ _) | (with_reducible refine Kd.C_drew ?_))); (case side3 => exact HC4.out); rintro e w32 ⟨v246, rfl, ho0, hb⟩; refine ⟨_, rfl, ?_⟩; have n0_ := Aside0.mk (Kd.V_lower (Kd.V_mono (ok' := fun k_ => k_ ≠ gb240) ho0 (fun k_ hk_ => Or.elim hk_ (fun hs_ => fun e_ => Nat.not_le.2 hs_ (by rw [e_]; exact GW240.out)) (fun hn_ => (Kd.freshB (g := gb240) (o := .cells #[.int .i64 a0_0, .slice A0_1 l0_1.length c0_1] 24 (0, 0)) (by (with_reducible repeat (first | refine blk_drewN ?_ _ | refine blk_drew ?_ | refine blk_alloc ?_ _)); exact BK240.out) k_ hn_)))) (below_size (by repeat (first | (with_reducible first | exact HB.out | apply below_alloc | apply pw_below_drewN | apply below_drew1 | refine below_set ?_ GE240.out) | exact HB.out)))); have n1_ := Aside0.mk (blk_below (g := gb240) (o := .cells #[.int .i64 a0_0, .slice A0_1 l0_1.length c0_1] 24 (0, 0)) (by (with_reducible repeat (first | refine blk_drewN ?_ _ | refine blk_drew ?_ | refine blk_alloc ?_ _)); exact BK240.out) hb); have n2_ := Aside0.mk (below_step (by repeat (first | (with_reducible first | exact HB.out | apply below_alloc | apply pw_below_drewN | apply below_drew1 | refine below_set ?_ GE240.out) | exact HB.out)) hb); clear BK240; clear HB; have HO247 := n0_; have BK240 := n1_; have HB := n2_; clear n0_ n1_ n2_; (try clear hb); (try clear hb2); (try clear hk); (try clear hi); (try clear ho0)) | ((with_reducible refine gate_dst (N := 17) rfl ?_); (try (refine gate_guard (by rfl) ?_; dsimp only)); refine box_event ?hg (N := 17) ?hd (cs := #[.int .i64 0, .slice none 0 0]) (t := 24) ?hr ?_; (case hd => rfl); (case hg => rfl); (case hr => first | (go_simp; done) | (go_simp; rfl)); intro gb249 hg w33 hbox hb; have n0_ := Aside0.mk (Kd.V_below (Kd.V_elderB (by (with_reducible repeat (first | apply Kd.V_alloc | apply Kd.V_drewN | apply Kd.V_drew)); exact HO247.out) gb249 (Nat.le_of_eq hg.symm)) hb); have n1_ := Aside0.mk (blk_below (g := gb240) (o := .cells #[.int .i64 a0_0, .slice A0_1 l0_1.length c0_1] 24 (0, 0)) (by (with_reducible repeat (first | refine blk_drewN ?_ _ | refine blk_drew ?_ | refine blk_alloc ?_ _)); exact BK240.out) hb); have n2_ := Aside0.mk (below_step (by repeat (first | (with_reducible first | exact HB.out | apply below_alloc | apply pw_below_drewN | apply below_drew1 | refine below_set ?_ GE240.out) | exact HB.out)) hb); have n3_ := Aside0.mk (hbox); have n4_ := Aside0.mk ((by rw [hg]; exact (below_size (by repeat (first | (with_reducible first | exact HB.out | apply below_alloc | apply pw_below_drewN | apply below_drew1 | refine below_set ?_ GE240.out) | exact HB.out))) : w.heap.size ≤ gb249)); have n5_ := Aside0.mk ((by rw [hg]; exact (below_size (by repeat (first | (with_reducible first | exact HB.out | apply below_alloc | apply pw_below_drewN | apply below_drew1 | refine below_set ?_ GE240.out) | exact HB.out))) : w.heap.size ≤ gb249)); have n6_ := Aside0.mk ((by rw [hg]; exact Nat.ne_of_lt (blk_lt (g := gb240) (o := .cells #[.int .i64 a0_0, .slice A0_1 l0_1.length c0_1] 24 (0, 0)) (by (with_reducible repeat (first | refine blk_drewN ?_ _ | refine blk_drew ?_ | refine blk_alloc ?_ _)); exact BK240.out)) : gb240 ≠ gb249)); have n7_ := Aside0.mk ((by rw [hg]; exact Nat.ne_of_gt (blk_lt (g := gb240) (o := .cells #[.int .i64 a0_0, .slice A0_1 l0_1.length c0_1] 24 (0, 0)) (by (with_reducible repeat (first | refine blk_drewN ?_ _ | refine blk_drew ?_ | refine blk_alloc ?_ _)); exact BK240.out)) : gb249 ≠ gb240)); clear HO247; clear BK240; clear HB; have HO247 := n0_; have BK240 := n1_; have HB := n2_; have BK249 := n3_; have GW249 := n4_; have GE249 := n5_; have NB240_249 := n6_; have NB249_240 := n7_; clear n0_ n1_ n2_ n3_ n4_ n5_ n6_ n7_; clear hb hbox hg; have hnb34 := NB249_240.out; have hnc34 := NB240_249.out; have hcz35_0 : w33.cell? ⟨gb249, 0, none⟩ = some (.int .i64 0) := (blk_cell BK249.out 0).trans rfl; have hcz35_1 : w33.cell? ⟨gb249, 1, none⟩ = some (.slice none 0 0) := (blk_cell BK249.out 1).trans rfl; have hfz35_0 := blk_frozen BK249.out 0; have hfz35_1 := blk_frozen BK249.out 1; obtain ⟨Ao36, co36, eo36⟩ := Kd.V_slice HO247.out; subst eo36; have hcz37_0 : w33.cell? ⟨gb240, 0, none⟩ = some (.int .i64 a0_0) := (blk_cell BK240.out 0).trans rfl; have hcz37_1 : w33.cell? ⟨gb240, 1, none⟩ = some (.slice A0_1 l0_1.length c0_1) := (blk_cell BK240.out 1).trans rfl; have hfz37_0 := blk_frozen BK240.out 0; have hfz37_1 := blk_frozen BK240.out 1) | ((with_reducible refine gate_callee (f := 14) rfl ?_); refine goesL_ (some 52) rfl rfl Try.func14 (by kernel_rfl) rfl #[.agg #[.int .i64 a0_0, .slice A0_1 l0_1.length c0_1], .int .u32 a6, .int .u32 a7, .int .u32 a5] rfl (by (try simp only [List.map_toArray, List.map_cons, List.map_nil]); first | done | rfl | (simp only [List.length_drop, List.length_take]; rfl)) ?_; (with_reducible refine (box_Open.calls a0_0 _ _ l0_1 a6 a7 a5 t250 t253 _ ?side1 ?side2 A26.out).mono ?_); (case side1 => exact Kd.C_below HR0_1.out (by repeat (first | (with_reducible first | exact HB.out | apply below_alloc | apply pw_below_drewN | apply below_drew1 | refine below_set ?_ GE240.out | refine below_set ?_ GE249.out) | exact HB.out))); (case side2 => exact HC0_1.out); rintro e w38 ⟨v251, rfl, ho0, hb⟩; refine ⟨_, rfl, ?_⟩; have n0_ := Aside0.mk (Kd.V_elder' (by (with_reducible repeat (first | apply Kd.V_alloc | apply Kd.V_drewN | apply Kd.V_drew)); exact (Kd.V_mono (Kd.V_far (p := ⟨gb249, 1, none⟩) (Kd.V_far (p := ⟨gb249, 0, none⟩) (Kd.V_mono HO247.out (fun k_ hk => (⟨hk, hk.2⟩ : _ ∧ k_ ≠ gb249))) (fun _ hk => hk.2) (.int .i64 t244)) (fun _ hk => hk.2) (.slice Ao36 t245.length co36)) (fun _ h_ => h_.1))) (Kd.R_base ho0) hb); have n1_ := Aside0.mk (Kd.R_lower ho0 (below_size (by repeat (first | (with_reducible first | exact HB.out | apply below_alloc | apply pw_below_drewN | apply below_drew1 | refine below_set ?_ GE240.out | refine below_set ?_ GE249.out) | exact HB.out)))); have n2_ := Aside0.mk (blk_below (g := gb240) (o := .cells #[.int .i64 a0_0, .slice A0_1 l0_1.length c0_1] 24 (0, 0)) (by (with_reducible repeat (first | refine blk_drewN ?_ _ | refine blk_drew ?_ | refine blk_alloc ?_ _)); refine blk_far ?_ NB240_249.out _; (with_reducible repeat (first | refine blk_drewN ?_ _ | refine blk_drew ?_ | refine blk_alloc ?_ _)); refine blk_far ?_ NB240_249.out _; (with_reducible repeat (first | refine blk_drewN ?_ _ | refine blk_drew ?_ | refine blk_alloc ?_ _)); exact BK240.out) hb); have n3_ := Aside0.mk (blk_below (g := gb249) (o := .cells #[.int .i64 t244, .slice Ao36 t245.length co36] 24 (0, 0)) (by (with_reducible repeat (first | refine blk_drewN ?_ _ | refine blk_drew ?_ | refine blk_alloc ?_ _)); refine blk_put (cs := #[.int .i64 t244, .slice none 0 0]) ?_ 1 _ rfl; (with_reducible repeat (first | refine blk_drewN ?_ _ | refine blk_drew ?_ | refine blk_alloc ?_ _)); refine blk_put (cs := #[.int .i64 0, .slice none 0 0]) ?_ 0 _ rfl; (with_reducible repeat (first | refine blk_drewN ?_ _ | refine blk_drew ?_ | refine blk_alloc ?_ _)); exact BK249.out) hb); have n4_ := Aside0.mk (below_step (by repeat (first | (with_reducible first | exact HB.out | apply below_alloc | apply pw_below_drewN | apply below_drew1 | refine below_set ?_ GE240.out | refine below_set ?_ GE249.out) | exact HB.out)) hb); clear HO247; clear BK240; clear BK249; clear HB; have HO247 := n0_; have HO252 := n1_; have BK240 := n2_; have BK249 := n3_; have HB := n4_; clear n0_ n1_ n2_ n3_ n4_; (try clear hb); (try clear hb2); (try clear hk); (try clear hi); (try clear ho0); have hcz39_0 : w38.cell? ⟨gb249, 0, none⟩ = some (.int .i64 t244) := (blk_cell BK249.out 0).trans rfl; have hcz39_1 : w38.cell? ⟨gb249, 1, none⟩ = some (.slice Ao36 t245.length co36) := (blk_cell BK249.out 1).trans rfl; have hfz39_0 := blk_frozen BK249.out 0; have hfz39_1 := blk_frozen BK249.out 1) | ((with_reducible refine gate_callee (f := 14) rfl ?_); refine goesL_ (some 60) rfl rfl Try.func14 (by kernel_rfl) rfl #[.agg #[.int .i64 t244, .slice Ao36 t245.length co36], .int .u32 a6, .int .u32 a7, .int .u32 a5] rfl (by (try simp only [List.map_toArray, List.map_cons, List.map_nil]); first | done | rfl | (simp only [List.length_drop, List.length_take]; rfl)) ?_; (with_reducible refine (box_Open.calls t244 _ _ t245 a6 a7 a5 t254 t257 _ ?side1 ?side2 A27.out).mono ?_); (case side1 => repeat (first | exact (Kd.V_reads' HO247.out).2.2 | (with_reducible refine Kd.C_alloc ?_ _) | (with_reducible refine Kd.C_drewN ?_ _) | (with_reducible refine Kd.C_drew ?_))); (case side2 => exact (Kd.V_reads' HO247.out).2.1); rintro e w40 ⟨v255, rfl, ho0, hb⟩; refine ⟨_, rfl, ?_⟩; have n0_ := Aside0.mk (Kd.V_elder' (by (with_reducible repeat (first | apply Kd.V_alloc | apply Kd.V_drewN | apply Kd.V_drew)); exact HO247.out) (Kd.R_base ho0) hb); have n1_ := Aside0.mk (Kd.R_elder' (by (with_reducible repeat (first | apply Kd.R_alloc | apply Kd.R_drewN | apply Kd.R_drew)); exact HO252.out) (Kd.R_base ho0) hb); have n2_ := Aside0.mk (Kd.R_lower (Kd.R_new' ho0 (Kd.R_lt (by (with_reducible repeat (first | apply Kd.R_alloc | apply Kd.R_drewN | apply Kd.R_drew)); exact HO252.out))) (below_size (by repeat (first | (with_reducible first | exact HB.out | apply below_alloc | apply pw_below_drewN | apply below_drew1 | refine below_set ?_ GE240.out | refine below_set ?_ GE249.out) | exact HB.out)))); have n3_ := Aside0.mk (blk_below (g := gb240) (o := .cells #[.int .i64 a0_0, .slice A0_1 l0_1.length c0_1] 24 (0, 0)) (by (with_reducible repeat (first | refine blk_drewN ?_ _ | refine blk_drew ?_ | refine blk_alloc ?_ _)); exact BK240.out) hb); have n4_ := Aside0.mk (blk_below (g := gb249) (o := .cells #[.int .i64 t244, .slice Ao36 t245.length co36] 24 (0, 0)) (by (with_reducible repeat (first | refine blk_drewN ?_ _ | refine blk_drew ?_ | refine blk_alloc ?_ _)); exact BK249.out) hb); have n5_ := Aside0.mk (below_step (by repeat (first | (with_reducible first | exact HB.out | apply below_alloc | apply pw_below_drewN | apply below_drew1 | refine below_set ?_ GE240.out | refine below_set ?_ GE249.out) | exact HB.out)) hb); clear HO247; clear HO252; clear BK240; clear BK249; clear HB; have HO247 := n0_; have HO252 := n1_; have HO256 := n2_; have BK240 := n3_; have BK249 := n4_; have HB := n5_; clear n0_ n1_ n2_ n3_ n4_ n5_; (try clear hb); (try clear hb2); (try clear hk); (try clear hi); (try clear ho0); have hcz41_0 : w40.cell? ⟨gb249, 0, none⟩ = some (.int .i64 t244) := (blk_cell BK249.out 0).trans rfl; have hcz41_1 : w40.cell? ⟨gb249, 1, none⟩ = some (.slice Ao36 t245.length co36) := (blk_cell BK249.out 1).trans rfl; have hfz41_0 := blk_frozen BK249.out 0; have hfz41_1 := blk_frozen BK249.out 1) | ((with_reducible refine gate_callee (f := 14) rfl ?_); refine goesL_ (some 83) rfl rfl Try.func14 (by kernel_rfl) rfl #[.agg #[.int .i64 t244, .slice Ao36 t245.length co36], .int .u32 a2, .int .u32 a3, .int .u32 a1] rfl (by (try simp only [List.map_toArray, List.map_cons, List.map_nil]); first | done | rfl | (simp only [List.length_drop, List.length_take]; rfl)) ?_; (with_reducible refine (box_Open.calls t244 _ _ t245 a2 a3 a1 t260 t263 _ ?side1 ?side2 A29.out).mono ?_); (case side1 => repeat (first | exact (Kd.V_reads' HO247.out).2.2 | (with_reducible refine Kd.C_alloc ?_ _) | (with_reducible refine Kd.C_drewN ?_ _) | (with_reducible refine Kd.C_drew ?_))); (case side2 => exact (Kd.V_reads' HO247.out).2.1); rintro e w42 ⟨v261, rfl, ho0, hb⟩; refine ⟨_, rfl, ?_⟩; have n0_ := Aside0.mk (Kd.V_elder' (by (with_reducible repeat (first | apply Kd.V_alloc | apply Kd.V_drewN | apply Kd.V_drew)); exact HO247.out) (Kd.R_base ho0) hb); have n1_ := Aside0.mk (Kd.R_elder' (by (with_reducible repeat (first | apply Kd.R_alloc | apply Kd.R_drewN | apply Kd.R_drew)); exact HO252.out) (Kd.R_base ho0) hb); have n2_ := Aside0.mk (Kd.R_elder' (by (with_reducible repeat (first | apply Kd.R_alloc | apply Kd.R_drewN | apply Kd.R_drew)); exact HO256.out) (Kd.R_base ho0) hb); have n3_ := Aside0.mk (Kd.R_lower (Kd.R_new' (Kd.R_new' ho0 (Kd.R_lt (by (with_reducible repeat (first | apply Kd.R_alloc | apply Kd.R_drewN | apply Kd.R_drew)); exact HO252.out))) (Kd.R_lt (by (with_reducible repeat (first | apply Kd.R_alloc | apply Kd.R_drewN | apply Kd.R_drew)); exact HO256.out))) (below_size (by repeat (first | (with_reducible first | exact HB.out | apply below_alloc | apply pw_below_drewN | apply below_drew1 | refine below_set ?_ GE240.out | refine below_set ?_ GE249.out) | exact HB.out)))); have n4_ := Aside0.mk (blk_below (g := gb240) (o := .cells #[.int .i64 a0_0, .slice A0_1 l0_1.length c0_1] 24 (0, 0)) (by (with_reducible repeat (first | refine blk_drewN ?_ _ | refine blk_drew ?_ | refine blk_alloc ?_ _)); exact BK240.out) hb); have n5_ := Aside0.mk (blk_below (g := gb249) (o := .cells #[.int .i64 t244, .slice Ao36 t245.length co36] 24 (0, 0)) (by (with_reducible repeat (first | refine blk_drewN ?_ _ | refine blk_drew ?_ | refine blk_alloc ?_ _)); exact BK249.out) hb); have n6_ := Aside0.mk (below_step (by repeat (first | (with_reducible first | exact HB.out | apply below_alloc | apply pw_below_drewN | apply below_drew1 | refine below_set ?_ GE240.out | refine below_set ?_ GE249.out) | exact HB.out)) hb); clear HO247; clear HO252; clear HO256; clear BK240; clear BK249; clear HB; have HO247 := n0_; have HO252 := n1_; have HO256 := n2_; have HO262 := n3_; have BK240 := n4_; have BK249 := n5_; have HB := n6_; clear n0_ n1_ n2_ n3_ n4_ n5_ n6_; (try clear hb); (try clear hb2); (try clear hk); (try clear hi); (try clear ho0)))
          (try simp only [Act.put, List.setIfInBounds_toArray, List.set_cons_zero, List.set_cons_succ])
          go_cut [98] (fun v98 wc => ∃ (kq : Nat) (x98_29 : Bool), v98 = .bool x98_29 ∧ Aside0 (chamberlainlaw07_BoxIdeal.j1 kq a1 a2 a3 a5 a6 a7 t250 t253 t254 t257 x98_29 = some r) ∧ Aside0 (kq ≤ kj8) ∧ Aside0 (Kd.R (Kd.int .u32) 25 wc w.heap.size (fun k_ => some k_ ≠ (v255 : Value).ownBlock) v251 t250) ∧ Aside0 (Kd.R (Kd.int .u32) 25 wc w.heap.size (fun k_ => some k_ ≠ (v251 : Value).ownBlock) v255 t254) ∧ Aside0 (Kd.V k43 43 wc w.heap.size (fun k_ => some k_ ≠ (v251 : Value).ownBlock ∧ some k_ ≠ (v255 : Value).ownBlock ∧ k_ ≠ gb240 ∧ k_ ≠ gb249) (.slice Ao36 t245.length co36) t245) ∧ Aside0 (wc.heap[gb240]? = some (.cells #[.int .i64 a0_0, (.slice A0_1 l0_1.length c0_1)] 24 (0, 0))) ∧ Aside0 (wc.heap[gb249]? = some (.cells #[.int .i64 t244, (.slice Ao36 t245.length co36)] 24 (0, 0))) ∧ Aside0 (Below w.heap.size w wc))
          case first =>
            have H := HC30.out
            clear HC30
            by_cases c43 : t263 = true
            · subst c43
              have H1 : ((chamberlainref01_Same.f kj8 t260 l4).bind fun t264 => (if t264 = true then ((box_Right.f t244 t245).bind fun t265 => (chamberlainlaw07_BoxIdeal.j1 kj8 a1 a2 a3 a5 a6 a7 t250 t253 t254 t257 (!t265))) else (chamberlainlaw07_BoxIdeal.j1 kj8 a1 a2 a3 a5 a6 a7 t250 t253 t254 t257 true))) = some r := by rw [if_pos rfl] at H; exact H
              clear H
              have H := H1
              clear H1
              replace H := Option.bind_eq_some_iff.mp H
              obtain ⟨t264, A440, H⟩ := H
              replace H : (if t264 = true then ((box_Right.f t244 t245).bind fun t265 => (chamberlainlaw07_BoxIdeal.j1 kj8 a1 a2 a3 a5 a6 a7 t250 t253 t254 t257 (!t265))) else (chamberlainlaw07_BoxIdeal.j1 kj8 a1 a2 a3 a5 a6 a7 t250 t253 t254 t257 true)) = some r := H
              have A44 := Aside0.mk A440
              clear A440
              by_cases c45 : t264 = true
              · subst c45
                have H1 : ((box_Right.f t244 t245).bind fun t265 => (chamberlainlaw07_BoxIdeal.j1 kj8 a1 a2 a3 a5 a6 a7 t250 t253 t254 t257 (!t265))) = some r := by rw [if_pos rfl] at H; exact H
                clear H
                have H := H1
                clear H1
                replace H := Option.bind_eq_some_iff.mp H
                obtain ⟨t265, A460, H⟩ := H
                replace H : (chamberlainlaw07_BoxIdeal.j1 kj8 a1 a2 a3 a5 a6 a7 t250 t253 t254 t257 (!t265)) = some r := H
                have A46 := Aside0.mk A460
                clear A460
                have H' := Aside0.mk H
                clear H
                obtain ⟨Ao47, co47, eo47⟩ := Kd.R_slice HO262.out
                subst eo47
                go_wp2_with (first | (go_at_call 17; (with_reducible refine (chamberlainref01_Same.calls kj8 _ _ t260 _ _ l4 true _ ?side1 ?side2 ?side3 ?side4 A44.out).mono ?_); (case side1 => repeat (first | exact (Kd.R_reads' HO262.out).2.2 | (with_reducible refine Kd.C_alloc ?_ _) | (with_reducible refine Kd.C_drewN ?_ _) | (with_reducible refine Kd.C_drew ?_))); (case side2 => exact (Kd.R_reads' HO262.out).2.1); (case side3 => repeat (first | exact (Kd.C_below HR4.out HB.out) | (with_reducible refine Kd.C_alloc ?_ _) | (with_reducible refine Kd.C_drewN ?_ _) | (with_reducible refine Kd.C_drew ?_))); (case side4 => exact HC4.out); rintro e w' ⟨rfl, ⟨nd, rfl⟩⟩; have hnb48 := NB249_240.out; have hnc48 := NB240_249.out; have hcz49_0 : w42.cell? ⟨gb249, 0, none⟩ = some (.int .i64 t244) := (blk_cell BK249.out 0).trans rfl; have hcz49_1 : w42.cell? ⟨gb249, 1, none⟩ = some (.slice Ao36 t245.length co36) := (blk_cell BK249.out 1).trans rfl; have hfz49_0 := blk_frozen BK249.out 0; have hfz49_1 := blk_frozen BK249.out 1) | (go_at_call 10; (with_reducible refine (box_Right.calls t244 _ _ t245 t265 _ ?side1 ?side2 A46.out).mono ?_); (case side1 => repeat (first | exact (Kd.V_reads' HO247.out).2.2 | (with_reducible refine Kd.C_alloc ?_ _) | (with_reducible refine Kd.C_drewN ?_ _) | (with_reducible refine Kd.C_drew ?_))); (case side2 => exact (Kd.V_reads' HO247.out).2.1); rintro e w50 ⟨rfl, hb⟩; have n0_ := Aside0.mk (Kd.V_below (by (with_reducible repeat (first | apply Kd.V_alloc | apply Kd.V_drewN | apply Kd.V_drew)); exact HO247.out) hb); have n1_ := Aside0.mk (Kd.R_below (by (with_reducible repeat (first | apply Kd.R_alloc | apply Kd.R_drewN | apply Kd.R_drew)); exact HO252.out) hb); have n2_ := Aside0.mk (Kd.R_below (by (with_reducible repeat (first | apply Kd.R_alloc | apply Kd.R_drewN | apply Kd.R_drew)); exact HO256.out) hb); have n3_ := Aside0.mk (Kd.R_below (by (with_reducible repeat (first | apply Kd.R_alloc | apply Kd.R_drewN | apply Kd.R_drew)); exact HO262.out) hb); have n4_ := Aside0.mk (blk_below (g := gb240) (o := .cells #[.int .i64 a0_0, .slice A0_1 l0_1.length c0_1] 24 (0, 0)) (by (with_reducible repeat (first | refine blk_drewN ?_ _ | refine blk_drew ?_ | refine blk_alloc ?_ _)); exact BK240.out) hb); have n5_ := Aside0.mk (blk_below (g := gb249) (o := .cells #[.int .i64 t244, .slice Ao36 t245.length co36] 24 (0, 0)) (by (with_reducible repeat (first | refine blk_drewN ?_ _ | refine blk_drew ?_ | refine blk_alloc ?_ _)); exact BK249.out) hb); have n6_ := Aside0.mk (below_step (by repeat (first | (with_reducible first | exact HB.out | apply below_alloc | apply pw_below_drewN | apply below_drew1 | refine below_set ?_ GE240.out | refine below_set ?_ GE249.out) | exact HB.out)) hb); clear HO247; clear HO252; clear HO256; clear HO262; clear BK240; clear BK249; clear HB; have HO247 := n0_; have HO252 := n1_; have HO256 := n2_; have HO262 := n3_; have BK240 := n4_; have BK249 := n5_; have HB := n6_; clear n0_ n1_ n2_ n3_ n4_ n5_ n6_; (try clear hb); (try clear hb2); (try clear hk); (try clear hi)))
                go_meet
                case rel => exact ⟨_, (!t265), (by first | rfl | (simp; done) | (simp [*]; done)), H', ⟨by have := HJ8.out; first | omega | exact Nat.le_refl _⟩, ⟨by (with_reducible repeat (first | apply Kd.R_alloc | apply Kd.R_drewN | apply Kd.R_drew)); exact Kd.R_mono HO252.out (fun _ hk => hk.1.2)⟩, ⟨by (with_reducible repeat (first | apply Kd.R_alloc | apply Kd.R_drewN | apply Kd.R_drew)); exact Kd.R_mono HO256.out (fun _ hk => hk.1.2)⟩, ⟨by (with_reducible repeat (first | apply Kd.V_alloc | apply Kd.V_drewN | apply Kd.V_drew)); exact Kd.V_mono HO247.out (fun _ hk => ⟨hk.1.1.2, ⟨hk.1.2, ⟨hk.1.1.1.1, hk.1.1.1.2⟩⟩⟩)⟩, ⟨by (with_reducible repeat (first | refine blk_drewN ?_ _ | refine blk_drew ?_ | refine blk_alloc ?_ _)); exact BK240.out⟩, ⟨by (with_reducible repeat (first | refine blk_drewN ?_ _ | refine blk_drew ?_ | refine blk_alloc ?_ _)); exact BK249.out⟩, ⟨by repeat (first | (with_reducible first | exact HB.out | apply below_alloc | apply pw_below_drewN | apply below_drew1 | refine below_set ?_ GE240.out | refine below_set ?_ GE249.out) | exact HB.out)⟩⟩
              · replace c45 := Bool.eq_false_iff.mpr c45
                subst c45
                have H1 : (chamberlainlaw07_BoxIdeal.j1 kj8 a1 a2 a3 a5 a6 a7 t250 t253 t254 t257 true) = some r := by rw [if_neg (show ¬ (false = true) by decide)] at H; exact H
                clear H
                have H := H1
                clear H1
                have H' := Aside0.mk H
                clear H
                obtain ⟨Ao51, co51, eo51⟩ := Kd.R_slice HO262.out
                subst eo51
                go_wp2_with (first | (go_at_call 17; (with_reducible refine (chamberlainref01_Same.calls kj8 _ _ t260 _ _ l4 false _ ?side1 ?side2 ?side3 ?side4 A44.out).mono ?_); (case side1 => repeat (first | exact (Kd.R_reads' HO262.out).2.2 | (with_reducible refine Kd.C_alloc ?_ _) | (with_reducible refine Kd.C_drewN ?_ _) | (with_reducible refine Kd.C_drew ?_))); (case side2 => exact (Kd.R_reads' HO262.out).2.1); (case side3 => repeat (first | exact (Kd.C_below HR4.out HB.out) | (with_reducible refine Kd.C_alloc ?_ _) | (with_reducible refine Kd.C_drewN ?_ _) | (with_reducible refine Kd.C_drew ?_))); (case side4 => exact HC4.out); rintro e w' ⟨rfl, ⟨nd, rfl⟩⟩))
                go_meet
                case rel => exact ⟨_, (true), (by first | rfl | (simp; done) | (simp [*]; done)), H', ⟨by have := HJ8.out; first | omega | exact Nat.le_refl _⟩, ⟨by (with_reducible repeat (first | apply Kd.R_alloc | apply Kd.R_drewN | apply Kd.R_drew)); exact Kd.R_mono HO252.out (fun _ hk => hk.1.2)⟩, ⟨by (with_reducible repeat (first | apply Kd.R_alloc | apply Kd.R_drewN | apply Kd.R_drew)); exact Kd.R_mono HO256.out (fun _ hk => hk.1.2)⟩, ⟨by (with_reducible repeat (first | apply Kd.V_alloc | apply Kd.V_drewN | apply Kd.V_drew)); exact Kd.V_mono HO247.out (fun _ hk => ⟨hk.1.1.2, ⟨hk.1.2, ⟨hk.1.1.1.1, hk.1.1.1.2⟩⟩⟩)⟩, ⟨by (with_reducible repeat (first | refine blk_drewN ?_ _ | refine blk_drew ?_ | refine blk_alloc ?_ _)); exact BK240.out⟩, ⟨by (with_reducible repeat (first | refine blk_drewN ?_ _ | refine blk_drew ?_ | refine blk_alloc ?_ _)); exact BK249.out⟩, ⟨by repeat (first | (with_reducible first | exact HB.out | apply below_alloc | apply pw_below_drewN | apply below_drew1 | refine below_set ?_ GE240.out | refine below_set ?_ GE249.out) | exact HB.out)⟩⟩
            · replace c43 := Bool.eq_false_iff.mpr c43
              subst c43
              have H1 : (chamberlainlaw07_BoxIdeal.j1 kj8 a1 a2 a3 a5 a6 a7 t250 t253 t254 t257 true) = some r := by rw [if_neg (show ¬ (false = true) by decide)] at H; exact H
              clear H
              have H := H1
              clear H1
              have H' := Aside0.mk H
              clear H
              go_wp2
              go_meet
              case rel => exact ⟨_, (true), (by first | rfl | (simp; done) | (simp [*]; done)), H', ⟨by have := HJ8.out; first | omega | exact Nat.le_refl _⟩, ⟨by (with_reducible repeat (first | apply Kd.R_alloc | apply Kd.R_drewN | apply Kd.R_drew)); exact Kd.R_mono HO252.out (fun _ hk => hk.1.2)⟩, ⟨by (with_reducible repeat (first | apply Kd.R_alloc | apply Kd.R_drewN | apply Kd.R_drew)); exact Kd.R_mono HO256.out (fun _ hk => hk.1.2)⟩, ⟨by (with_reducible repeat (first | apply Kd.V_alloc | apply Kd.V_drewN | apply Kd.V_drew)); exact Kd.V_mono HO247.out (fun _ hk => ⟨hk.1.1.2, ⟨hk.1.2, ⟨hk.1.1.1.1, hk.1.1.1.2⟩⟩⟩)⟩, ⟨by (with_reducible repeat (first | refine blk_drewN ?_ _ | refine blk_drew ?_ | refine blk_alloc ?_ _)); exact BK240.out⟩, ⟨by (with_reducible repeat (first | refine blk_drewN ?_ _ | refine blk_drew ?_ | refine blk_alloc ?_ _)); exact BK249.out⟩, ⟨by repeat (first | (with_reducible first | exact HB.out | apply below_alloc | apply pw_below_drewN | apply below_drew1 | refine below_set ?_ GE240.out | refine below_set ?_ GE249.out) | exact HB.out)⟩⟩
          case rest =>
            clear HC30
            try clear c1
            try clear c2
            try clear p2
            try clear c3
            try clear c4
            try clear c8
            try clear c12
            try clear c14
            try clear c22
            try clear c28
            try clear c28b0
            try clear c28b1
            try clear c34
            try clear c43
            try clear c45
            try clear c48
            try clear hcz16_0
            try clear hcz16_1
            try clear hcz19_0
            try clear hcz19_1
            try clear hcz31_0
            try clear hcz31_1
            try clear hcz35_0
            try clear hcz35_1
            try clear hcz37_0
            try clear hcz37_1
            try clear hcz39_0
            try clear hcz39_1
            try clear hcz41_0
            try clear hcz41_1
            try clear hcz49_0
            try clear hcz49_1
            try clear hfz16_0
            try clear hfz16_1
            try clear hfz19_0
            try clear hfz19_1
            try clear hfz31_0
            try clear hfz31_1
            try clear hfz35_0
            try clear hfz35_1
            try clear hfz37_0
            try clear hfz37_1
            try clear hfz39_0
            try clear hfz39_1
            try clear hfz41_0
            try clear hfz41_1
            try clear hfz49_0
            try clear hfz49_1
            try clear p2
            obtain ⟨kq, x98_29, rfl, HA, HJ29, HO_19, HO_21, HO_250001, BK240, BK249, HB⟩ := hcut
            cases kq with
            | zero => exact absurd HA.out (by simp [chamberlainlaw07_BoxIdeal.j1])
            | succ kj29 =>
              have H := HA.out
              clear HA
              simp only [chamberlainlaw07_BoxIdeal.j1] at H
              by_cases c52 : x98_29 = true
              · subst c52
                have H1 : (some false) = some r := by rw [if_pos rfl] at H; exact H
                clear H
                have H := H1
                clear H1
                exact absurd (hT.out.symm.trans (Option.some.inj H).symm) (by decide)
              · replace c52 := Bool.eq_false_iff.mpr c52
                subst c52
                have H1 : (if a5 = a1 then (if t253 = true then (some false) else (if a6 = a2 then (some (t257 == (a7 == a3))) else (some (t257 == false)))) else (if (t253 == t257) = true then ((chamberlainref01_Same.f kj29 t250 t254).bind fun t266 => (some t266)) else (some false))) = some r := by rw [if_neg (show ¬ (false = true) by decide)] at H; exact H
                clear H
                have H := H1
                clear H1
                by_cases c53 : a5 = a1
                · rw [if_pos c53] at H
                  have c53b0 : (a5 == a1) = true := beq_iff_eq.mpr c53
                  have c53b1 : (a5 != a1) = false := bne_eq_false_iff_eq.mpr c53
                  clear c53
                  by_cases c54 : t253 = true
                  · subst c54
                    have H1 : (some false) = some r := by rw [if_pos rfl] at H; exact H
                    clear H
                    have H := H1
                    clear H1
                    exact absurd (hT.out.symm.trans (Option.some.inj H).symm) (by decide)
                  · replace c54 := Bool.eq_false_iff.mpr c54
                    subst c54
                    have H1 : (if a6 = a2 then (some (t257 == (a7 == a3))) else (some (t257 == false))) = some r := by rw [if_neg (show ¬ (false = true) by decide)] at H; exact H
                    clear H
                    have H := H1
                    clear H1
                    by_cases c55 : a6 = a2
                    · rw [if_pos c55] at H
                      have c55b0 : (a6 == a2) = true := beq_iff_eq.mpr c55
                      have c55b1 : (a6 != a2) = false := bne_eq_false_iff_eq.mpr c55
                      clear c55
                      obtain rfl := Option.some.inj H
                      go_wp2
                      go_ret
                      exact ⟨by first | rfl | (simp [errW_none, errW_some] <;> rfl) | (simp [*, errW_none, errW_some] <;> rfl), by repeat (first | (with_reducible first | exact HB.out | apply below_alloc | apply pw_below_drewN | apply below_drew1 | refine below_set ?_ GE240.out | refine below_set ?_ GE249.out) | exact HB.out)⟩
                    · rw [if_neg c55] at H
                      have c55b0 : (a6 == a2) = false := beq_eq_false_iff_ne.mpr c55
                      have c55b1 : (a6 != a2) = true := bne_iff_ne.mpr c55
                      obtain rfl := Option.some.inj H
                      go_wp2
                      go_ret
                      exact ⟨by first | rfl | (simp [errW_none, errW_some] <;> rfl) | (simp [*, errW_none, errW_some] <;> rfl), by repeat (first | (with_reducible first | exact HB.out | apply below_alloc | apply pw_below_drewN | apply below_drew1 | refine below_set ?_ GE240.out | refine below_set ?_ GE249.out) | exact HB.out)⟩
                · rw [if_neg c53] at H
                  have c53b0 : (a5 == a1) = false := beq_eq_false_iff_ne.mpr c53
                  have c53b1 : (a5 != a1) = true := bne_iff_ne.mpr c53
                  by_cases c56 : (t253 == t257) = true
                  · rw [if_pos c56] at H
                    have c56b0 : (t253 == t257) = true := c56
                    (try (have c56b1 : decide (t253 = t257) = true := by simpa using c56))
                    (try (have c56b2 : (t253 == t257) = true := by simpa using c56))
                    clear c56
                    replace H := Option.bind_eq_some_iff.mp H
                    obtain ⟨t266, A570, H⟩ := H
                    replace H : (some t266) = some r := H
                    have A57 := Aside0.mk A570
                    clear A570
                    obtain rfl := Option.some.inj H
                    obtain ⟨Ao58, co58, eo58⟩ := Kd.R_slice HO_19.out
                    subst eo58
                    obtain ⟨Ao59, co59, eo59⟩ := Kd.R_slice HO_21.out
                    subst eo59
                    go_wp2_with (first | (go_at_call 17; (with_reducible refine (chamberlainref01_Same.calls kj29 _ _ t250 _ _ t254 t266 _ ?side1 ?side2 ?side3 ?side4 A57.out).mono ?_); (case side1 => repeat (first | exact (Kd.R_reads' HO_19.out).2.2 | (with_reducible refine Kd.C_alloc ?_ _) | (with_reducible refine Kd.C_drewN ?_ _) | (with_reducible refine Kd.C_drew ?_))); (case side2 => exact (Kd.R_reads' HO_19.out).2.1); (case side3 => repeat (first | exact (Kd.R_reads' HO_21.out).2.2 | (with_reducible refine Kd.C_alloc ?_ _) | (with_reducible refine Kd.C_drewN ?_ _) | (with_reducible refine Kd.C_drew ?_))); (case side4 => exact (Kd.R_reads' HO_21.out).2.1); rintro e w' ⟨rfl, ⟨nd, rfl⟩⟩))
                    go_ret
                    exact ⟨by first | rfl | (simp [errW_none, errW_some] <;> rfl) | (simp [*, errW_none, errW_some] <;> rfl), by repeat (first | (with_reducible first | exact HB.out | apply below_alloc | apply pw_below_drewN | apply below_drew1 | refine below_set ?_ GE240.out | refine below_set ?_ GE249.out) | exact HB.out)⟩
                  · rw [if_neg c56] at H
                    have c56b0 : (t253 == t257) = false := by simpa using c56
                    (try (have c56b1 : decide (t253 = t257) = false := by simpa using c56))
                    (try (have c56b2 : (t253 == t257) = false := by simpa using c56))
                    (try (have c56b3 : ¬ (t253 = t257) := by simpa using c56))
                    clear c56
                    exact absurd (hT.out.symm.trans (Option.some.inj H).symm) (by decide)
        · rw [if_neg c28] at H
          have c28b0 : (t248 == 0) = false := beq_eq_false_iff_ne.mpr c28
          have c28b1 : (t248 != 0) = true := bne_iff_ne.mpr c28
          replace H := Option.bind_eq_some_iff.mp H
          obtain ⟨t258, A600, H⟩ := H
          replace H : (if t258 = true then (if (t253 == t257) = true then ((chamberlainref01_Same.f kj8 t250 t254).bind fun t259 => (some t259)) else (some false)) else (some false)) = some r := H
          have A60 := Aside0.mk A600
          clear A600
          by_cases c61 : t258 = true
          · subst c61
            have H1 : (if (t253 == t257) = true then ((chamberlainref01_Same.f kj8 t250 t254).bind fun t259 => (some t259)) else (some false)) = some r := by rw [if_pos rfl] at H; exact H
            clear H
            have H := H1
            clear H1
            by_cases c62 : (t253 == t257) = true
            · rw [if_pos c62] at H
              have c62b0 : (t253 == t257) = true := c62
              (try (have c62b1 : decide (t253 = t257) = true := by simpa using c62))
              (try (have c62b2 : (t253 == t257) = true := by simpa using c62))
              clear c62
              replace H := Option.bind_eq_some_iff.mp H
              obtain ⟨t259, A630, H⟩ := H
              replace H : (some t259) = some r := H
              have A63 := Aside0.mk A630
              clear A630
              obtain rfl := Option.some.inj H
              have hcz64_0 : wc.cell? ⟨gb240, 0, none⟩ = some (.int .i64 a0_0) := (blk_cell BK240.out 0).trans rfl
              have hcz64_1 : wc.cell? ⟨gb240, 1, none⟩ = some (.slice A0_1 l0_1.length c0_1) := (blk_cell BK240.out 1).trans rfl
              have hfz64_0 := blk_frozen BK240.out 0
              have hfz64_1 := blk_frozen BK240.out 1
              go_wp2_with (first | ((with_reducible refine gate_callee (f := 12) rfl ?_); refine goesL_ (some 44) rfl rfl Try.func12 (by kernel_rfl) rfl #[.agg #[.int .i64 a0_0, .slice A0_1 l0_1.length c0_1], .int .u32 a1, .int .u32 a2, .int .u32 a3, .slice A4 l4.length c4] rfl (by (try simp only [List.map_toArray, List.map_cons, List.map_nil]); first | done | rfl | (simp only [List.length_drop, List.length_take]; rfl)) ?_; (with_reducible refine (box_Seal.calls a0_0 (fun k_ => k_ < w.heap.size) _ _ l0_1 a1 a2 a3 _ _ l4 t244 t245 t248 _ ?side1 ?side2 ?side3 A25.out).mono ?_); (case side1 => exact Kd.V_mk HC0_1.out (Kd.F_below (Kd.C_F k43_heap HR0_1.out) (by repeat (first | (with_reducible first | exact HB.out | apply below_alloc | apply pw_below_drewN | apply below_drew1 | refine below_set ?_ GE240.out) | exact HB.out)))); (case side2 => repeat (first | exact (Kd.C_below HR4.out HB.out) | (with_reducible refine Kd.C_alloc ?_ _) | (with_reducible refine Kd.C_drewN ?_ _) | (with_reducible refine Kd.C_drew ?_))); (case side3 => exact HC4.out); rintro e w65 ⟨v246, rfl, ho0, hb⟩; refine ⟨_, rfl, ?_⟩; have n0_ := Aside0.mk (Kd.V_lower (Kd.V_mono (ok' := fun k_ => k_ ≠ gb240) ho0 (fun k_ hk_ => Or.elim hk_ (fun hs_ => fun e_ => Nat.not_le.2 hs_ (by rw [e_]; exact GW240.out)) (fun hn_ => (Kd.freshB (g := gb240) (o := .cells #[.int .i64 a0_0, .slice A0_1 l0_1.length c0_1] 24 (0, 0)) (by (with_reducible repeat (first | refine blk_drewN ?_ _ | refine blk_drew ?_ | refine blk_alloc ?_ _)); exact BK240.out) k_ hn_)))) (below_size (by repeat (first | (with_reducible first | exact HB.out | apply below_alloc | apply pw_below_drewN | apply below_drew1 | refine below_set ?_ GE240.out) | exact HB.out)))); have n1_ := Aside0.mk (blk_below (g := gb240) (o := .cells #[.int .i64 a0_0, .slice A0_1 l0_1.length c0_1] 24 (0, 0)) (by (with_reducible repeat (first | refine blk_drewN ?_ _ | refine blk_drew ?_ | refine blk_alloc ?_ _)); exact BK240.out) hb); have n2_ := Aside0.mk (below_step (by repeat (first | (with_reducible first | exact HB.out | apply below_alloc | apply pw_below_drewN | apply below_drew1 | refine below_set ?_ GE240.out) | exact HB.out)) hb); clear BK240; clear HB; have HO247 := n0_; have BK240 := n1_; have HB := n2_; clear n0_ n1_ n2_; (try clear hb); (try clear hb2); (try clear hk); (try clear hi); (try clear ho0)) | ((with_reducible refine gate_dst (N := 17) rfl ?_); (try (refine gate_guard (by rfl) ?_; dsimp only)); refine box_event ?hg (N := 17) ?hd (cs := #[.int .i64 0, .slice none 0 0]) (t := 24) ?hr ?_; (case hd => rfl); (case hg => rfl); (case hr => first | (go_simp; done) | (go_simp; rfl)); intro gb249 hg w66 hbox hb; have n0_ := Aside0.mk (Kd.V_below (Kd.V_elderB (by (with_reducible repeat (first | apply Kd.V_alloc | apply Kd.V_drewN | apply Kd.V_drew)); exact HO247.out) gb249 (Nat.le_of_eq hg.symm)) hb); have n1_ := Aside0.mk (blk_below (g := gb240) (o := .cells #[.int .i64 a0_0, .slice A0_1 l0_1.length c0_1] 24 (0, 0)) (by (with_reducible repeat (first | refine blk_drewN ?_ _ | refine blk_drew ?_ | refine blk_alloc ?_ _)); exact BK240.out) hb); have n2_ := Aside0.mk (below_step (by repeat (first | (with_reducible first | exact HB.out | apply below_alloc | apply pw_below_drewN | apply below_drew1 | refine below_set ?_ GE240.out) | exact HB.out)) hb); have n3_ := Aside0.mk (hbox); have n4_ := Aside0.mk ((by rw [hg]; exact (below_size (by repeat (first | (with_reducible first | exact HB.out | apply below_alloc | apply pw_below_drewN | apply below_drew1 | refine below_set ?_ GE240.out) | exact HB.out))) : w.heap.size ≤ gb249)); have n5_ := Aside0.mk ((by rw [hg]; exact (below_size (by repeat (first | (with_reducible first | exact HB.out | apply below_alloc | apply pw_below_drewN | apply below_drew1 | refine below_set ?_ GE240.out) | exact HB.out))) : w.heap.size ≤ gb249)); have n6_ := Aside0.mk ((by rw [hg]; exact Nat.ne_of_lt (blk_lt (g := gb240) (o := .cells #[.int .i64 a0_0, .slice A0_1 l0_1.length c0_1] 24 (0, 0)) (by (with_reducible repeat (first | refine blk_drewN ?_ _ | refine blk_drew ?_ | refine blk_alloc ?_ _)); exact BK240.out)) : gb240 ≠ gb249)); have n7_ := Aside0.mk ((by rw [hg]; exact Nat.ne_of_gt (blk_lt (g := gb240) (o := .cells #[.int .i64 a0_0, .slice A0_1 l0_1.length c0_1] 24 (0, 0)) (by (with_reducible repeat (first | refine blk_drewN ?_ _ | refine blk_drew ?_ | refine blk_alloc ?_ _)); exact BK240.out)) : gb249 ≠ gb240)); clear HO247; clear BK240; clear HB; have HO247 := n0_; have BK240 := n1_; have HB := n2_; have BK249 := n3_; have GW249 := n4_; have GE249 := n5_; have NB240_249 := n6_; have NB249_240 := n7_; clear n0_ n1_ n2_ n3_ n4_ n5_ n6_ n7_; clear hb hbox hg; have hnb67 := NB249_240.out; have hnc67 := NB240_249.out; have hcz68_0 : w66.cell? ⟨gb249, 0, none⟩ = some (.int .i64 0) := (blk_cell BK249.out 0).trans rfl; have hcz68_1 : w66.cell? ⟨gb249, 1, none⟩ = some (.slice none 0 0) := (blk_cell BK249.out 1).trans rfl; have hfz68_0 := blk_frozen BK249.out 0; have hfz68_1 := blk_frozen BK249.out 1; obtain ⟨Ao69, co69, eo69⟩ := Kd.V_slice HO247.out; subst eo69; have hcz70_0 : w66.cell? ⟨gb240, 0, none⟩ = some (.int .i64 a0_0) := (blk_cell BK240.out 0).trans rfl; have hcz70_1 : w66.cell? ⟨gb240, 1, none⟩ = some (.slice A0_1 l0_1.length c0_1) := (blk_cell BK240.out 1).trans rfl; have hfz70_0 := blk_frozen BK240.out 0; have hfz70_1 := blk_frozen BK240.out 1) | ((with_reducible refine gate_callee (f := 14) rfl ?_); refine goesL_ (some 52) rfl rfl Try.func14 (by kernel_rfl) rfl #[.agg #[.int .i64 a0_0, .slice A0_1 l0_1.length c0_1], .int .u32 a6, .int .u32 a7, .int .u32 a5] rfl (by (try simp only [List.map_toArray, List.map_cons, List.map_nil]); first | done | rfl | (simp only [List.length_drop, List.length_take]; rfl)) ?_; (with_reducible refine (box_Open.calls a0_0 _ _ l0_1 a6 a7 a5 t250 t253 _ ?side1 ?side2 A26.out).mono ?_); (case side1 => exact Kd.C_below HR0_1.out (by repeat (first | (with_reducible first | exact HB.out | apply below_alloc | apply pw_below_drewN | apply below_drew1 | refine below_set ?_ GE240.out | refine below_set ?_ GE249.out) | exact HB.out))); (case side2 => exact HC0_1.out); rintro e w71 ⟨v251, rfl, ho0, hb⟩; refine ⟨_, rfl, ?_⟩; have n0_ := Aside0.mk (Kd.V_elder' (by (with_reducible repeat (first | apply Kd.V_alloc | apply Kd.V_drewN | apply Kd.V_drew)); exact (Kd.V_mono (Kd.V_far (p := ⟨gb249, 1, none⟩) (Kd.V_far (p := ⟨gb249, 0, none⟩) (Kd.V_mono HO247.out (fun k_ hk => (⟨hk, hk.2⟩ : _ ∧ k_ ≠ gb249))) (fun _ hk => hk.2) (.int .i64 t244)) (fun _ hk => hk.2) (.slice Ao69 t245.length co69)) (fun _ h_ => h_.1))) (Kd.R_base ho0) hb); have n1_ := Aside0.mk (Kd.R_lower ho0 (below_size (by repeat (first | (with_reducible first | exact HB.out | apply below_alloc | apply pw_below_drewN | apply below_drew1 | refine below_set ?_ GE240.out | refine below_set ?_ GE249.out) | exact HB.out)))); have n2_ := Aside0.mk (blk_below (g := gb240) (o := .cells #[.int .i64 a0_0, .slice A0_1 l0_1.length c0_1] 24 (0, 0)) (by (with_reducible repeat (first | refine blk_drewN ?_ _ | refine blk_drew ?_ | refine blk_alloc ?_ _)); refine blk_far ?_ NB240_249.out _; (with_reducible repeat (first | refine blk_drewN ?_ _ | refine blk_drew ?_ | refine blk_alloc ?_ _)); refine blk_far ?_ NB240_249.out _; (with_reducible repeat (first | refine blk_drewN ?_ _ | refine blk_drew ?_ | refine blk_alloc ?_ _)); exact BK240.out) hb); have n3_ := Aside0.mk (blk_below (g := gb249) (o := .cells #[.int .i64 t244, .slice Ao69 t245.length co69] 24 (0, 0)) (by (with_reducible repeat (first | refine blk_drewN ?_ _ | refine blk_drew ?_ | refine blk_alloc ?_ _)); refine blk_put (cs := #[.int .i64 t244, .slice none 0 0]) ?_ 1 _ rfl; (with_reducible repeat (first | refine blk_drewN ?_ _ | refine blk_drew ?_ | refine blk_alloc ?_ _)); refine blk_put (cs := #[.int .i64 0, .slice none 0 0]) ?_ 0 _ rfl; (with_reducible repeat (first | refine blk_drewN ?_ _ | refine blk_drew ?_ | refine blk_alloc ?_ _)); exact BK249.out) hb); have n4_ := Aside0.mk (below_step (by repeat (first | (with_reducible first | exact HB.out | apply below_alloc | apply pw_below_drewN | apply below_drew1 | refine below_set ?_ GE240.out | refine below_set ?_ GE249.out) | exact HB.out)) hb); clear HO247; clear BK240; clear BK249; clear HB; have HO247 := n0_; have HO252 := n1_; have BK240 := n2_; have BK249 := n3_; have HB := n4_; clear n0_ n1_ n2_ n3_ n4_; (try clear hb); (try clear hb2); (try clear hk); (try clear hi); (try clear ho0); have hcz72_0 : w71.cell? ⟨gb249, 0, none⟩ = some (.int .i64 t244) := (blk_cell BK249.out 0).trans rfl; have hcz72_1 : w71.cell? ⟨gb249, 1, none⟩ = some (.slice Ao69 t245.length co69) := (blk_cell BK249.out 1).trans rfl; have hfz72_0 := blk_frozen BK249.out 0; have hfz72_1 := blk_frozen BK249.out 1) | ((with_reducible refine gate_callee (f := 14) rfl ?_); refine goesL_ (some 60) rfl rfl Try.func14 (by kernel_rfl) rfl #[.agg #[.int .i64 t244, .slice Ao69 t245.length co69], .int .u32 a6, .int .u32 a7, .int .u32 a5] rfl (by (try simp only [List.map_toArray, List.map_cons, List.map_nil]); first | done | rfl | (simp only [List.length_drop, List.length_take]; rfl)) ?_; (with_reducible refine (box_Open.calls t244 _ _ t245 a6 a7 a5 t254 t257 _ ?side1 ?side2 A27.out).mono ?_); (case side1 => repeat (first | exact (Kd.V_reads' HO247.out).2.2 | (with_reducible refine Kd.C_alloc ?_ _) | (with_reducible refine Kd.C_drewN ?_ _) | (with_reducible refine Kd.C_drew ?_))); (case side2 => exact (Kd.V_reads' HO247.out).2.1); rintro e w73 ⟨v255, rfl, ho0, hb⟩; refine ⟨_, rfl, ?_⟩; have n0_ := Aside0.mk (Kd.V_elder' (by (with_reducible repeat (first | apply Kd.V_alloc | apply Kd.V_drewN | apply Kd.V_drew)); exact HO247.out) (Kd.R_base ho0) hb); have n1_ := Aside0.mk (Kd.R_elder' (by (with_reducible repeat (first | apply Kd.R_alloc | apply Kd.R_drewN | apply Kd.R_drew)); exact HO252.out) (Kd.R_base ho0) hb); have n2_ := Aside0.mk (Kd.R_lower (Kd.R_new' ho0 (Kd.R_lt (by (with_reducible repeat (first | apply Kd.R_alloc | apply Kd.R_drewN | apply Kd.R_drew)); exact HO252.out))) (below_size (by repeat (first | (with_reducible first | exact HB.out | apply below_alloc | apply pw_below_drewN | apply below_drew1 | refine below_set ?_ GE240.out | refine below_set ?_ GE249.out) | exact HB.out)))); have n3_ := Aside0.mk (blk_below (g := gb240) (o := .cells #[.int .i64 a0_0, .slice A0_1 l0_1.length c0_1] 24 (0, 0)) (by (with_reducible repeat (first | refine blk_drewN ?_ _ | refine blk_drew ?_ | refine blk_alloc ?_ _)); exact BK240.out) hb); have n4_ := Aside0.mk (blk_below (g := gb249) (o := .cells #[.int .i64 t244, .slice Ao69 t245.length co69] 24 (0, 0)) (by (with_reducible repeat (first | refine blk_drewN ?_ _ | refine blk_drew ?_ | refine blk_alloc ?_ _)); exact BK249.out) hb); have n5_ := Aside0.mk (below_step (by repeat (first | (with_reducible first | exact HB.out | apply below_alloc | apply pw_below_drewN | apply below_drew1 | refine below_set ?_ GE240.out | refine below_set ?_ GE249.out) | exact HB.out)) hb); clear HO247; clear HO252; clear BK240; clear BK249; clear HB; have HO247 := n0_; have HO252 := n1_; have HO256 := n2_; have BK240 := n3_; have BK249 := n4_; have HB := n5_; clear n0_ n1_ n2_ n3_ n4_ n5_; (try clear hb); (try clear hb2); (try clear hk); (try clear hi); (try clear ho0); have hcz74_0 : w73.cell? ⟨gb249, 0, none⟩ = some (.int .i64 t244) := (blk_cell BK249.out 0).trans rfl; have hcz74_1 : w73.cell? ⟨gb249, 1, none⟩ = some (.slice Ao69 t245.length co69) := (blk_cell BK249.out 1).trans rfl; have hfz74_0 := blk_frozen BK249.out 0; have hfz74_1 := blk_frozen BK249.out 1; have hcz75_0 : w73.cell? ⟨gb240, 0, none⟩ = some (.int .i64 a0_0) := (blk_cell BK240.out 0).trans rfl; have hcz75_1 : w73.cell? ⟨gb240, 1, none⟩ = some (.slice A0_1 l0_1.length c0_1) := (blk_cell BK240.out 1).trans rfl; have hfz75_0 := blk_frozen BK240.out 0; have hfz75_1 := blk_frozen BK240.out 1) | ((with_reducible refine gate_callee (f := 16) rfl ?_); refine goesL_ (some 67) rfl rfl Try.func16 (by kernel_rfl) rfl #[.agg #[.int .i64 t244, .slice Ao69 t245.length co69], .agg #[.int .i64 a0_0, .slice A0_1 l0_1.length c0_1]] rfl (by (try simp only [List.map_toArray, List.map_cons, List.map_nil]); first | done | rfl | (simp only [List.length_drop, List.length_take]; rfl)) ?_; (with_reducible refine (chamberlainref07_Same.calls kj8 t244 _ _ t245 a0_0 _ _ l0_1 true _ ?side1 ?side2 ?side3 ?side4 A60.out).mono ?_); (case side1 => repeat (first | exact (Kd.V_reads' HO247.out).2.2 | (with_reducible refine Kd.C_alloc ?_ _) | (with_reducible refine Kd.C_drewN ?_ _) | (with_reducible refine Kd.C_drew ?_))); (case side2 => exact (Kd.V_reads' HO247.out).2.1); (case side3 => repeat (first | exact (Kd.C_below HR0_1.out HB.out) | (with_reducible refine Kd.C_alloc ?_ _) | (with_reducible refine Kd.C_drewN ?_ _) | (with_reducible refine Kd.C_drew ?_))); (case side4 => exact HC0_1.out); rintro e w76 ⟨rfl, hb⟩; refine ⟨_, rfl, ?_⟩; have n0_ := Aside0.mk (Kd.V_below (by (with_reducible repeat (first | apply Kd.V_alloc | apply Kd.V_drewN | apply Kd.V_drew)); exact HO247.out) hb); have n1_ := Aside0.mk (Kd.R_below (by (with_reducible repeat (first | apply Kd.R_alloc | apply Kd.R_drewN | apply Kd.R_drew)); exact HO252.out) hb); have n2_ := Aside0.mk (Kd.R_below (by (with_reducible repeat (first | apply Kd.R_alloc | apply Kd.R_drewN | apply Kd.R_drew)); exact HO256.out) hb); have n3_ := Aside0.mk (blk_below (g := gb240) (o := .cells #[.int .i64 a0_0, .slice A0_1 l0_1.length c0_1] 24 (0, 0)) (by (with_reducible repeat (first | refine blk_drewN ?_ _ | refine blk_drew ?_ | refine blk_alloc ?_ _)); exact BK240.out) hb); have n4_ := Aside0.mk (blk_below (g := gb249) (o := .cells #[.int .i64 t244, .slice Ao69 t245.length co69] 24 (0, 0)) (by (with_reducible repeat (first | refine blk_drewN ?_ _ | refine blk_drew ?_ | refine blk_alloc ?_ _)); exact BK249.out) hb); have n5_ := Aside0.mk (below_step (by repeat (first | (with_reducible first | exact HB.out | apply below_alloc | apply pw_below_drewN | apply below_drew1 | refine below_set ?_ GE240.out | refine below_set ?_ GE249.out) | exact HB.out)) hb); clear HO247; clear HO252; clear HO256; clear BK240; clear BK249; clear HB; have HO247 := n0_; have HO252 := n1_; have HO256 := n2_; have BK240 := n3_; have BK249 := n4_; have HB := n5_; clear n0_ n1_ n2_ n3_ n4_ n5_; (try clear hb); (try clear hb2); (try clear hk); (try clear hi); obtain ⟨Ao77, co77, eo77⟩ := Kd.R_slice HO252.out; subst eo77; obtain ⟨Ao78, co78, eo78⟩ := Kd.R_slice HO256.out; subst eo78) | (go_at_call 17; (with_reducible refine (chamberlainref01_Same.calls kj8 _ _ t250 _ _ t254 t259 _ ?side1 ?side2 ?side3 ?side4 A63.out).mono ?_); (case side1 => repeat (first | exact (Kd.R_reads' HO252.out).2.2 | (with_reducible refine Kd.C_alloc ?_ _) | (with_reducible refine Kd.C_drewN ?_ _) | (with_reducible refine Kd.C_drew ?_))); (case side2 => exact (Kd.R_reads' HO252.out).2.1); (case side3 => repeat (first | exact (Kd.R_reads' HO256.out).2.2 | (with_reducible refine Kd.C_alloc ?_ _) | (with_reducible refine Kd.C_drewN ?_ _) | (with_reducible refine Kd.C_drew ?_))); (case side4 => exact (Kd.R_reads' HO256.out).2.1); rintro e w' ⟨rfl, ⟨nd, rfl⟩⟩))
              go_ret
              exact ⟨by first | rfl | (simp [errW_none, errW_some] <;> rfl) | (simp [*, errW_none, errW_some] <;> rfl), by repeat (first | (with_reducible first | exact HB.out | apply below_alloc | apply pw_below_drewN | apply below_drew1 | refine below_set ?_ GE240.out | refine below_set ?_ GE249.out) | exact HB.out)⟩
            · rw [if_neg c62] at H
              have c62b0 : (t253 == t257) = false := by simpa using c62
              (try (have c62b1 : decide (t253 = t257) = false := by simpa using c62))
              (try (have c62b2 : (t253 == t257) = false := by simpa using c62))
              (try (have c62b3 : ¬ (t253 = t257) := by simpa using c62))
              clear c62
              exact absurd (hT.out.symm.trans (Option.some.inj H).symm) (by decide)
          · replace c61 := Bool.eq_false_iff.mpr c61
            subst c61
            have H1 : (some false) = some r := by rw [if_neg (show ¬ (false = true) by decide)] at H; exact H
            clear H
            have H := H1
            clear H1
            exact absurd (hT.out.symm.trans (Option.some.inj H).symm) (by decide)

end Go.Proofs.Ytifdlpnpbicahaa.PBoxIdeal
