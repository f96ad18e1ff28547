-- Written for this claim by wip/tools/myprint.py (print.py's forms; proofs of the faked functions by hand).
import Derived.Test.YtpbmmompbknimaaPPartGetsx0
import Derived.Test.YtpbmmompbknimaaPPartGetsx1
import Derived.Test.YtpbmmompbknimaaPPartGetsx2
import Derived.Test.YtpbmmompbknimaaPPartGetsx3
import Derived.Test.YtpbmmompbknimaaPPartGetsx5
namespace Go.Proofs.Ytpbmmompbknimaa.PPartGets
open Go.RowKit Go.Proofs.YtpbmmompbknimaaW.PrintWords Go.Proofs.YtpbmmompbknimaaW.PrintLast Go.Proofs.YtpbmmompbknimaaW.PrintMore
attribute [local go_sem] max2_int min2_int max_two min_two max_three min_three max_four min_four   -- for this text's walks alone
set_option linter.unusedVariables false
set_option linter.unusedSimpArgs false

attribute [local go_sem high] eqA24
/-! ### chamberlainlaw11_PartGets: function 4 -/
def chamberlainlaw11_PartGets.j0 : Nat → Int → List Int → Bool → Option (Bool)
  | 0, _, _, _ => none
  | k + 1, x0, x1, x15 => if x15 = true then ((chamberlainlaw11_awake.f k).bind fun t205 => (some t205)) else ((part_Get.f x0 x1).bind fun bt206 => ((chamberlainref11_Get.f k x0 x1).bind fun bt215 => (if (bt206.1 == bt215.1 && (bt206.2.1 == bt215.2.1 && (bt206.2.2.1 == bt215.2.2.1 && (bt206.2.2.2.1 == bt215.2.2.2.1 && (bt206.2.2.2.2.1 == bt215.2.2.2.2.1 && (bt206.2.2.2.2.2.1 == bt215.2.2.2.2.2.1 && (bt206.2.2.2.2.2.2.1 == bt215.2.2.2.2.2.2.1))))))) = true then (some (bt206.2.2.2.2.2.2.2 == bt215.2.2.2.2.2.2.2)) else (some false))))
def chamberlainlaw11_PartGets.f (k : Nat) (a0 : Int) (l1 : List Int) : Option (Bool) := (chamberlainlaw11_awake.f k).bind fun t204 => (if t204 = true then (chamberlainlaw11_PartGets.j0 k a0 l1 (decide ((l1.length : Int) > 100))) else (chamberlainlaw11_PartGets.j0 k a0 l1 true))
theorem chamberlainlaw11_PartGets.mono_l : ∀ k, (∀ y0 y1 y2, LeO (chamberlainlaw11_PartGets.j0 k y0 y1 y2) (chamberlainlaw11_PartGets.j0 (k + 1) y0 y1 y2))
  | 0 => fun _ _ _ r h => by simp [chamberlainlaw11_PartGets.j0] at h
  | k + 1 => by
    have ih0 := chamberlainlaw11_PartGets.mono_l k
    · intro y0 y1 y2
      unfold chamberlainlaw11_PartGets.j0
      repeat' first
      | (with_reducible exact ih0 _ _ _)
      | (with_reducible exact chamberlainlaw11_awake.mono _)
      | (with_reducible exact chamberlainref11_Get.mono _ _ _)
      | (with_reducible exact LeO.refl _)
      | (with_reducible exact LeO.none _)
      | (with_reducible refine LeO.ite ?_ ?_)
      | (with_reducible refine LeO.bind ?_ (fun _ => ?_))
      | exact ih0 _ _ _
      | exact chamberlainlaw11_awake.mono _
      | exact chamberlainref11_Get.mono _ _ _
      | exact LeO.none _
      | refine LeO.ite ?_ ?_
      | refine LeO.bind ?_ (fun _ => ?_)
theorem chamberlainlaw11_PartGets.mono : ∀ a0 a1 k, LeO (chamberlainlaw11_PartGets.f k a0 a1) (chamberlainlaw11_PartGets.f (k + 1) a0 a1) := by
  intro a0 a1 k
  have ih0 := chamberlainlaw11_PartGets.mono_l k
  unfold chamberlainlaw11_PartGets.f
  repeat' first
      | (with_reducible exact ih0 _ _ _)
      | (with_reducible exact chamberlainlaw11_awake.mono _)
      | (with_reducible exact chamberlainref11_Get.mono _ _ _)
      | (with_reducible exact LeO.refl _)
      | (with_reducible exact LeO.none _)
      | (with_reducible refine LeO.ite ?_ ?_)
      | (with_reducible refine LeO.bind ?_ (fun _ => ?_))
      | exact ih0 _ _ _
      | exact chamberlainlaw11_awake.mono _
      | exact chamberlainref11_Get.mono _ _ _
      | exact LeO.none _
      | refine LeO.ite ?_ ?_
      | refine LeO.bind ?_ (fun _ => ?_)
set_option maxHeartbeats 8000000 in
set_option maxRecDepth 100000 in
theorem chamberlainlaw11_PartGets.calls (k : Nat) (a0 : Int) (A1 : Option Addr) (c1 : Nat) (l1 : List Int) (r : Bool) (w : World) (hr1 : Kd.C (Kd.int .u32) w A1 l1.length l1) (hc1 : l1.length ≤ c1) (h : chamberlainlaw11_PartGets.f k a0 l1 = some r) (hT0 : r = true) :
    Calls Try.prog 4 #[.int .u32 a0, .slice A1 l1.length c1] w fun e w' => e = .returned (.bool r) ∧ Below w.heap.size w w' := by
  have hT := Aside0.mk hT0
  clear hT0
  have hu24 := Try.underlying24
  have HR1 := Aside0.mk hr1
  have HC1 := Aside0.mk hc1
  clear hr1 hc1
  have HB := Aside0.mk (Below.refl w.heap.size w)
  have H : ((chamberlainlaw11_awake.f k).bind fun t204 => (if t204 = true then (chamberlainlaw11_PartGets.j0 k a0 l1 (decide ((l1.length : Int) > 100))) else (chamberlainlaw11_PartGets.j0 k a0 l1 true))) = some r := h
  clear h
  have HC3 := Aside0.mk H
  clear H
  go_enter Try.func4, Try.ntmps4
  go_upto_region 1 with (fail)
  go_cut [15] (fun v15 wc => ∃ (kq : Nat) (x15_2 : Bool), v15 = .bool x15_2 ∧ Aside0 (chamberlainlaw11_PartGets.j0 kq a0 l1 x15_2 = some r) ∧ Aside0 (kq ≤ k) ∧ Aside0 (Below w.heap.size w wc))
  case first =>
    have H := HC3.out
    clear HC3
    replace H := Option.bind_eq_some_iff.mp H
    obtain ⟨t204, A40, H⟩ := H
    replace H : (if t204 = true then (chamberlainlaw11_PartGets.j0 k a0 l1 (decide ((l1.length : Int) > 100))) else (chamberlainlaw11_PartGets.j0 k a0 l1 true)) = some r := H
    have A4 := Aside0.mk A40
    clear A40
    by_cases c5 : t204 = true
    · subst c5
      have H1 : (chamberlainlaw11_PartGets.j0 k a0 l1 (decide ((l1.length : Int) > 100))) = some r := by rw [if_pos rfl] at H; exact H
      clear H
      have H := H1
      clear H1
      have H' := Aside0.mk H
      clear H
      go_wp2_with (first | ((with_reducible refine gate_callee (f := 8) rfl ?_); refine goesL_ (some 9) rfl rfl Try.func8 (by kernel_rfl) rfl #[] rfl (by (try simp only [List.map_toArray, List.map_cons, List.map_nil]); first | done | rfl | (simp only [List.length_drop, List.length_take]; rfl)) ?_; (with_reducible refine (chamberlainlaw11_awake.calls k  true _ A4.out).mono ?_); rintro e w6 ⟨rfl, hb⟩; refine ⟨_, rfl, ?_⟩; have n0_ := Aside0.mk (below_step (by repeat (first | (with_reducible first | exact HB.out | apply below_alloc | apply pw_below_drewN | apply below_drew1) | exact HB.out)) hb); clear HB; have HB := n0_; clear n0_; (try clear hb); (try clear hb2); (try clear hk); (try clear hi)))
      go_meet
      case rel => exact ⟨_, (decide ((l1.length : Int) > 100)), (by first | rfl | (simp; done) | (simp [*]; done)), H', ⟨by first | omega | exact Nat.le_refl _⟩, ⟨by repeat (first | (with_reducible first | exact HB.out | apply below_alloc | apply pw_below_drewN | apply below_drew1) | exact HB.out)⟩⟩
    · replace c5 := Bool.eq_false_iff.mpr c5
      subst c5
      have H1 : (chamberlainlaw11_PartGets.j0 k a0 l1 true) = some r := by rw [if_neg (show ¬ (false = true) by decide)] at H; exact H
      clear H
      have H := H1
      clear H1
      have H' := Aside0.mk H
      clear H
      go_wp2_with (first | ((with_reducible refine gate_callee (f := 8) rfl ?_); refine goesL_ (some 9) rfl rfl Try.func8 (by kernel_rfl) rfl #[] rfl (by (try simp only [List.map_toArray, List.map_cons, List.map_nil]); first | done | rfl | (simp only [List.length_drop, List.length_take]; rfl)) ?_; (with_reducible refine (chamberlainlaw11_awake.calls k  false _ A4.out).mono ?_); rintro e w7 ⟨rfl, hb⟩; refine ⟨_, rfl, ?_⟩; have n0_ := Aside0.mk (below_step (by repeat (first | (with_reducible first | exact HB.out | apply below_alloc | apply pw_below_drewN | apply below_drew1) | exact HB.out)) hb); clear HB; have HB := n0_; clear n0_; (try clear hb); (try clear hb2); (try clear hk); (try clear hi)))
      go_meet
      case rel => exact ⟨_, (true), (by first | rfl | (simp; done) | (simp [*]; done)), H', ⟨by first | omega | exact Nat.le_refl _⟩, ⟨by repeat (first | (with_reducible first | exact HB.out | apply below_alloc | apply pw_below_drewN | apply below_drew1) | exact HB.out)⟩⟩
  case rest =>
    clear HC3
    try clear c1
    try clear p2
    try clear c4
    try clear c5
    obtain ⟨kq, x15_2, rfl, HA, HJ2, HB⟩ := hcut
    cases kq with
    | zero => exact absurd HA.out (by simp [chamberlainlaw11_PartGets.j0])
    | succ kj2 =>
      have H := HA.out
      clear HA
      simp only [chamberlainlaw11_PartGets.j0] at H
      by_cases c8 : x15_2 = true
      · subst c8
        have H1 : ((chamberlainlaw11_awake.f kj2).bind fun t205 => (some t205)) = some r := by rw [if_pos rfl] at H; exact H
        clear H
        have H := H1
        clear H1
        replace H := Option.bind_eq_some_iff.mp H
        obtain ⟨t205, A90, H⟩ := H
        replace H : (some t205) = some r := H
        have A9 := Aside0.mk A90
        clear A90
        obtain rfl := Option.some.inj H
        go_wp2_with (first | ((with_reducible refine gate_callee (f := 8) rfl ?_); refine goesL_ (some 16) rfl rfl Try.func8 (by kernel_rfl) rfl #[] rfl (by (try simp only [List.map_toArray, List.map_cons, List.map_nil]); first | done | rfl | (simp only [List.length_drop, List.length_take]; rfl)) ?_; (with_reducible refine (chamberlainlaw11_awake.calls kj2  t205 _ A9.out).mono ?_); rintro e w10 ⟨rfl, hb⟩; refine ⟨_, rfl, ?_⟩; have n0_ := Aside0.mk (below_step (by repeat (first | (with_reducible first | exact HB.out | apply below_alloc | apply pw_below_drewN | apply below_drew1) | exact HB.out)) hb); clear HB; have HB := n0_; clear n0_; (try clear hb); (try clear hb2); (try clear hk); (try clear hi)))
        go_ret
        exact ⟨by first | rfl | (simp [errW_none, errW_some] <;> rfl) | (simp [*, errW_none, errW_some] <;> rfl), by repeat (first | (with_reducible first | exact HB.out | apply below_alloc | apply pw_below_drewN | apply below_drew1) | exact HB.out)⟩
      · replace c8 := Bool.eq_false_iff.mpr c8
        subst c8
        have H1 : ((part_Get.f a0 l1).bind fun bt206 => ((chamberlainref11_Get.f kj2 a0 l1).bind fun bt215 => (if (bt206.1 == bt215.1 && (bt206.2.1 == bt215.2.1 && (bt206.2.2.1 == bt215.2.2.1 && (bt206.2.2.2.1 == bt215.2.2.2.1 && (bt206.2.2.2.2.1 == bt215.2.2.2.2.1 && (bt206.2.2.2.2.2.1 == bt215.2.2.2.2.2.1 && (bt206.2.2.2.2.2.2.1 == bt215.2.2.2.2.2.2.1))))))) = true then (some (bt206.2.2.2.2.2.2.2 == bt215.2.2.2.2.2.2.2)) else (some false)))) = some r := by rw [if_neg (show ¬ (false = true) by decide)] at H; exact H
        clear H
        have H := H1
        clear H1
        replace H := Option.bind_eq_some_iff.mp H
        obtain ⟨⟨t206, t207, t208, t209, t210, t211, t212, t213⟩, A110, H⟩ := H
        replace H : ((chamberlainref11_Get.f kj2 a0 l1).bind fun bt215 => (if (t206 == bt215.1 && (t207 == bt215.2.1 && (t208 == bt215.2.2.1 && (t209 == bt215.2.2.2.1 && (t210 == bt215.2.2.2.2.1 && (t211 == bt215.2.2.2.2.2.1 && (t212 == bt215.2.2.2.2.2.2.1))))))) = true then (some (t213 == bt215.2.2.2.2.2.2.2)) else (some false))) = some r := H
        have A11 := Aside0.mk A110
        clear A110
        replace H := Option.bind_eq_some_iff.mp H
        obtain ⟨⟨t215, t216, t217, t218, t219, t220, t221, t222⟩, A120, H⟩ := H
        replace H : (if (t206 == t215 && (t207 == t216 && (t208 == t217 && (t209 == t218 && (t210 == t219 && (t211 == t220 && (t212 == t221))))))) = true then (some (t213 == t222)) else (some false)) = some r := H
        have A12 := Aside0.mk A120
        clear A120
        by_cases c13 : (t206 == t215 && (t207 == t216 && (t208 == t217 && (t209 == t218 && (t210 == t219 && (t211 == t220 && (t212 == t221))))))) = true
        · rw [if_pos c13] at H
          have c13b0 : (t206 == t215 && (t207 == t216 && (t208 == t217 && (t209 == t218 && (t210 == t219 && (t211 == t220 && (t212 == t221))))))) = true := c13
          (try (have c13b1 : decide (t206 = t215 && (t207 == t216 && (t208 == t217 && (t209 == t218 && (t210 == t219 && (t211 == t220 && (t212 == t221))))))) = true := by simpa using c13))
          (try (have c13b2 : (t206 == t215 && (t207 == t216 && (t208 == t217 && (t209 == t218 && (t210 == t219 && (t211 == t220 && (t212 == t221))))))) = true := by simpa using c13))
          clear c13
          obtain rfl := Option.some.inj H
          go_wp2_with (first | ((with_reducible refine gate_callee (f := 15) rfl ?_); refine goesL_ (some 20) rfl rfl Try.func15 (by kernel_rfl) rfl #[.int .u32 a0, .slice A1 l1.length c1] rfl (by (try simp only [List.map_toArray, List.map_cons, List.map_nil]); first | done | rfl | (simp only [List.length_drop, List.length_take]; rfl)) ?_; (with_reducible refine (part_Get.calls a0 _ _ l1 t206 t207 t208 t209 t210 t211 t212 t213 _ ?side1 ?side2 A11.out).mono ?_); (case side1 => repeat (first | exact (Kd.C_below HR1.out HB.out) | (with_reducible refine Kd.C_alloc ?_ _) | (with_reducible refine Kd.C_drewN ?_ _) | (with_reducible refine Kd.C_drew ?_))); (case side2 => exact HC1.out); rintro e w14 ⟨rfl, hb⟩; refine ⟨_, rfl, ?_⟩; have n0_ := Aside0.mk (below_step (by repeat (first | (with_reducible first | exact HB.out | apply below_alloc | apply pw_below_drewN | apply below_drew1) | exact HB.out)) hb); clear HB; have HB := n0_; clear n0_; (try clear hb); (try clear hb2); (try clear hk); (try clear hi)) | ((with_reducible refine gate_dst (N := 5) rfl ?_); (try (refine gate_guard (by rfl) ?_; dsimp only)); refine box_event ?hg (N := 5) ?hd (cs := #[.int .u32 0, .int .u32 0, .int .u32 0, .int .u32 0, .int .u32 0, .int .u32 0, .int .u32 0]) (t := 24) ?hr ?_; (case hd => rfl); (case hg => rfl); (case hr => first | (go_simp; done) | (go_simp; rfl)); intro gb214 hg w15 hbox hb; have n0_ := Aside0.mk (below_step (by repeat (first | (with_reducible first | exact HB.out | apply below_alloc | apply pw_below_drewN | apply below_drew1) | exact HB.out)) hb); have n1_ := Aside0.mk (hbox); have n2_ := Aside0.mk ((by rw [hg]; exact (below_size (by repeat (first | (with_reducible first | exact HB.out | apply below_alloc | apply pw_below_drewN | apply below_drew1) | exact HB.out))) : w.heap.size ≤ gb214)); have n3_ := Aside0.mk ((by rw [hg]; exact (below_size (by repeat (first | (with_reducible first | exact HB.out | apply below_alloc | apply pw_below_drewN | apply below_drew1) | exact HB.out))) : w.heap.size ≤ gb214)); clear HB; have HB := n0_; have BK214 := n1_; have GW214 := n2_; have GE214 := n3_; clear n0_ n1_ n2_ n3_; clear hb hbox hg; have hcz16_0 : w15.cell? ⟨gb214, 0, none⟩ = some (.int .u32 0) := (blk_cell BK214.out 0).trans rfl; have hcz16_1 : w15.cell? ⟨gb214, 1, none⟩ = some (.int .u32 0) := (blk_cell BK214.out 1).trans rfl; have hcz16_2 : w15.cell? ⟨gb214, 2, none⟩ = some (.int .u32 0) := (blk_cell BK214.out 2).trans rfl; have hcz16_3 : w15.cell? ⟨gb214, 3, none⟩ = some (.int .u32 0) := (blk_cell BK214.out 3).trans rfl; have hcz16_4 : w15.cell? ⟨gb214, 4, none⟩ = some (.int .u32 0) := (blk_cell BK214.out 4).trans rfl; have hcz16_5 : w15.cell? ⟨gb214, 5, none⟩ = some (.int .u32 0) := (blk_cell BK214.out 5).trans rfl; have hcz16_6 : w15.cell? ⟨gb214, 6, none⟩ = some (.int .u32 0) := (blk_cell BK214.out 6).trans rfl; have hfz16_0 := blk_frozen BK214.out 0; have hfz16_1 := blk_frozen BK214.out 1; have hfz16_2 := blk_frozen BK214.out 2; have hfz16_3 := blk_frozen BK214.out 3; have hfz16_4 := blk_frozen BK214.out 4; have hfz16_5 := blk_frozen BK214.out 5; have hfz16_6 := blk_frozen BK214.out 6) | ((with_reducible refine gate_callee (f := 16) rfl ?_); refine goesL_ (some 26) rfl rfl Try.func16 (by kernel_rfl) rfl #[.int .u32 a0, .slice A1 l1.length c1] rfl (by (try simp only [List.map_toArray, List.map_cons, List.map_nil]); first | done | rfl | (simp only [List.length_drop, List.length_take]; rfl)) ?_; (with_reducible refine (chamberlainref11_Get.calls kj2 a0 _ _ l1 t215 t216 t217 t218 t219 t220 t221 t222 _ ?side1 ?side2 A12.out).mono ?_); (case side1 => exact Kd.C_below HR1.out (by repeat (first | (with_reducible first | exact HB.out | apply below_alloc | apply pw_below_drewN | apply below_drew1 | refine below_set ?_ GE214.out) | exact HB.out))); (case side2 => exact HC1.out); rintro e w17 ⟨rfl, hb⟩; refine ⟨_, rfl, ?_⟩; have n0_ := Aside0.mk (blk_below (g := gb214) (o := .cells #[.int .u32 t206, .int .u32 t207, .int .u32 t208, .int .u32 t209, .int .u32 t210, .int .u32 t211, .int .u32 t212] 24 (0, 0)) (by (with_reducible repeat (first | refine blk_drewN ?_ _ | refine blk_drew ?_ | refine blk_alloc ?_ _)); refine blk_put (cs := #[.int .u32 t206, .int .u32 t207, .int .u32 t208, .int .u32 t209, .int .u32 t210, .int .u32 t211, .int .u32 0]) ?_ 6 _ rfl; (with_reducible repeat (first | refine blk_drewN ?_ _ | refine blk_drew ?_ | refine blk_alloc ?_ _)); refine blk_put (cs := #[.int .u32 t206, .int .u32 t207, .int .u32 t208, .int .u32 t209, .int .u32 t210, .int .u32 0, .int .u32 0]) ?_ 5 _ rfl; (with_reducible repeat (first | refine blk_drewN ?_ _ | refine blk_drew ?_ | refine blk_alloc ?_ _)); refine blk_put (cs := #[.int .u32 t206, .int .u32 t207, .int .u32 t208, .int .u32 t209, .int .u32 0, .int .u32 0, .int .u32 0]) ?_ 4 _ rfl; (with_reducible repeat (first | refine blk_drewN ?_ _ | refine blk_drew ?_ | refine blk_alloc ?_ _)); refine blk_put (cs := #[.int .u32 t206, .int .u32 t207, .int .u32 t208, .int .u32 0, .int .u32 0, .int .u32 0, .int .u32 0]) ?_ 3 _ rfl; (with_reducible repeat (first | refine blk_drewN ?_ _ | refine blk_drew ?_ | refine blk_alloc ?_ _)); refine blk_put (cs := #[.int .u32 t206, .int .u32 t207, .int .u32 0, .int .u32 0, .int .u32 0, .int .u32 0, .int .u32 0]) ?_ 2 _ rfl; (with_reducible repeat (first | refine blk_drewN ?_ _ | refine blk_drew ?_ | refine blk_alloc ?_ _)); refine blk_put (cs := #[.int .u32 t206, .int .u32 0, .int .u32 0, .int .u32 0, .int .u32 0, .int .u32 0, .int .u32 0]) ?_ 1 _ rfl; (with_reducible repeat (first | refine blk_drewN ?_ _ | refine blk_drew ?_ | refine blk_alloc ?_ _)); refine blk_put (cs := #[.int .u32 0, .int .u32 0, .int .u32 0, .int .u32 0, .int .u32 0, .int .u32 0, .int .u32 0]) ?_ 0 _ rfl; (with_reducible repeat (first | refine blk_drewN ?_ _ | refine blk_drew ?_ | refine blk_alloc ?_ _)); exact BK214.out) hb); have n1_ := Aside0.mk (below_step (by repeat (first | (with_reducible first | exact HB.out | apply below_alloc | apply pw_below_drewN | apply below_drew1 | refine below_set ?_ GE214.out) | exact HB.out)) hb); clear BK214; clear HB; have BK214 := n0_; have HB := n1_; clear n0_ n1_; (try clear hb); (try clear hb2); (try clear hk); (try clear hi)) | ((with_reducible refine gate_dst (N := 7) rfl ?_); (try (refine gate_guard (by rfl) ?_; dsimp only)); refine box_event ?hg (N := 7) ?hd (cs := #[.int .u32 0, .int .u32 0, .int .u32 0, .int .u32 0, .int .u32 0, .int .u32 0, .int .u32 0]) (t := 24) ?hr ?_; (case hd => rfl); (case hg => rfl); (case hr => first | (go_simp; done) | (go_simp; rfl)); intro gb223 hg w18 hbox hb; have n0_ := Aside0.mk (blk_below (g := gb214) (o := .cells #[.int .u32 t206, .int .u32 t207, .int .u32 t208, .int .u32 t209, .int .u32 t210, .int .u32 t211, .int .u32 t212] 24 (0, 0)) (by (with_reducible repeat (first | refine blk_drewN ?_ _ | refine blk_drew ?_ | refine blk_alloc ?_ _)); exact BK214.out) hb); have n1_ := Aside0.mk (below_step (by repeat (first | (with_reducible first | exact HB.out | apply below_alloc | apply pw_below_drewN | apply below_drew1 | refine below_set ?_ GE214.out) | exact HB.out)) hb); have n2_ := Aside0.mk (hbox); have n3_ := Aside0.mk ((by rw [hg]; exact (below_size (by repeat (first | (with_reducible first | exact HB.out | apply below_alloc | apply pw_below_drewN | apply below_drew1 | refine below_set ?_ GE214.out) | exact HB.out))) : w.heap.size ≤ gb223)); have n4_ := Aside0.mk ((by rw [hg]; exact (below_size (by repeat (first | (with_reducible first | exact HB.out | apply below_alloc | apply pw_below_drewN | apply below_drew1 | refine below_set ?_ GE214.out) | exact HB.out))) : w.heap.size ≤ gb223)); have n5_ := Aside0.mk ((by rw [hg]; exact Nat.ne_of_lt (blk_lt (g := gb214) (o := .cells #[.int .u32 t206, .int .u32 t207, .int .u32 t208, .int .u32 t209, .int .u32 t210, .int .u32 t211, .int .u32 t212] 24 (0, 0)) (by (with_reducible repeat (first | refine blk_drewN ?_ _ | refine blk_drew ?_ | refine blk_alloc ?_ _)); exact BK214.out)) : gb214 ≠ gb223)); have n6_ := Aside0.mk ((by rw [hg]; exact Nat.ne_of_gt (blk_lt (g := gb214) (o := .cells #[.int .u32 t206, .int .u32 t207, .int .u32 t208, .int .u32 t209, .int .u32 t210, .int .u32 t211, .int .u32 t212] 24 (0, 0)) (by (with_reducible repeat (first | refine blk_drewN ?_ _ | refine blk_drew ?_ | refine blk_alloc ?_ _)); exact BK214.out)) : gb223 ≠ gb214)); clear BK214; clear HB; have BK214 := n0_; have HB := n1_; have BK223 := n2_; have GW223 := n3_; have GE223 := n4_; have NB214_223 := n5_; have NB223_214 := n6_; clear n0_ n1_ n2_ n3_ n4_ n5_ n6_; clear hb hbox hg; have hnb19 := NB223_214.out; have hnc19 := NB214_223.out; have hcz20_0 : w18.cell? ⟨gb223, 0, none⟩ = some (.int .u32 0) := (blk_cell BK223.out 0).trans rfl; have hcz20_1 : w18.cell? ⟨gb223, 1, none⟩ = some (.int .u32 0) := (blk_cell BK223.out 1).trans rfl; have hcz20_2 : w18.cell? ⟨gb223, 2, none⟩ = some (.int .u32 0) := (blk_cell BK223.out 2).trans rfl; have hcz20_3 : w18.cell? ⟨gb223, 3, none⟩ = some (.int .u32 0) := (blk_cell BK223.out 3).trans rfl; have hcz20_4 : w18.cell? ⟨gb223, 4, none⟩ = some (.int .u32 0) := (blk_cell BK223.out 4).trans rfl; have hcz20_5 : w18.cell? ⟨gb223, 5, none⟩ = some (.int .u32 0) := (blk_cell BK223.out 5).trans rfl; have hcz20_6 : w18.cell? ⟨gb223, 6, none⟩ = some (.int .u32 0) := (blk_cell BK223.out 6).trans rfl; have hfz20_0 := blk_frozen BK223.out 0; have hfz20_1 := blk_frozen BK223.out 1; have hfz20_2 := blk_frozen BK223.out 2; have hfz20_3 := blk_frozen BK223.out 3; have hfz20_4 := blk_frozen BK223.out 4; have hfz20_5 := blk_frozen BK223.out 5; have hfz20_6 := blk_frozen BK223.out 6; have hcz21_0 : w18.cell? ⟨gb214, 0, none⟩ = some (.int .u32 t206) := (blk_cell BK214.out 0).trans rfl; have hcz21_1 : w18.cell? ⟨gb214, 1, none⟩ = some (.int .u32 t207) := (blk_cell BK214.out 1).trans rfl; have hcz21_2 : w18.cell? ⟨gb214, 2, none⟩ = some (.int .u32 t208) := (blk_cell BK214.out 2).trans rfl; have hcz21_3 : w18.cell? ⟨gb214, 3, none⟩ = some (.int .u32 t209) := (blk_cell BK214.out 3).trans rfl; have hcz21_4 : w18.cell? ⟨gb214, 4, none⟩ = some (.int .u32 t210) := (blk_cell BK214.out 4).trans rfl; have hcz21_5 : w18.cell? ⟨gb214, 5, none⟩ = some (.int .u32 t211) := (blk_cell BK214.out 5).trans rfl; have hcz21_6 : w18.cell? ⟨gb214, 6, none⟩ = some (.int .u32 t212) := (blk_cell BK214.out 6).trans rfl; have hfz21_0 := blk_frozen BK214.out 0; have hfz21_1 := blk_frozen BK214.out 1; have hfz21_2 := blk_frozen BK214.out 2; have hfz21_3 := blk_frozen BK214.out 3; have hfz21_4 := blk_frozen BK214.out 4; have hfz21_5 := blk_frozen BK214.out 5; have hfz21_6 := blk_frozen BK214.out 6))
          go_ret
          exact ⟨by first | rfl | (simp [errW_none, errW_some] <;> rfl) | (simp [*, errW_none, errW_some] <;> rfl), by repeat (first | (with_reducible first | exact HB.out | apply below_alloc | apply pw_below_drewN | apply below_drew1 | refine below_set ?_ GE214.out | refine below_set ?_ GE223.out) | exact HB.out)⟩
        · rw [if_neg c13] at H
          have c13b0 : (t206 == t215 && (t207 == t216 && (t208 == t217 && (t209 == t218 && (t210 == t219 && (t211 == t220 && (t212 == t221))))))) = false := by simpa using c13
          (try (have c13b1 : decide (t206 = t215 && (t207 == t216 && (t208 == t217 && (t209 == t218 && (t210 == t219 && (t211 == t220 && (t212 == t221))))))) = false := by simpa using c13))
          (try (have c13b2 : (t206 == t215 && (t207 == t216 && (t208 == t217 && (t209 == t218 && (t210 == t219 && (t211 == t220 && (t212 == t221))))))) = false := by simpa using c13))
          (try (have c13b3 : ¬ (t206 = t215 && (t207 == t216 && (t208 == t217 && (t209 == t218 && (t210 == t219 && (t211 == t220 && (t212 == t221))))))) := by simpa using c13))
          clear c13
          exact absurd (hT.out.symm.trans (Option.some.inj H).symm) (by decide)

/-- THE ONE PURE STATEMENT of chamberlainlaw11_PartGets: yours. -/
def chamberlainlaw11_PartGets.Pure : Prop := ∀ (a0 : Int) (l1 : List Int), (Lit.int .u32 a0).wf = true → l1.length ≤ maxLen → l1.length * 4 ≤ 140737488351232 → (∀ x ∈ l1, (Lit.int .u32 x).wf = true) → ∃ k, chamberlainlaw11_PartGets.f k a0 l1 = some true
theorem chamberlainlaw11_PartGets.walk (P : chamberlainlaw11_PartGets.Pure) (a0 : Int) (a1 : Option Addr) (len1 cap1 : Nat) (z1 : List Int) (w : World) (w0 : (Lit.int .u32 a0).wf = true) (w1 : (a1 = none ∧ len1 = 0 ∧ cap1 = 0 ∧ z1 = []) ∨ ∃ x, a1 = some x ∧ len1 ≤ cap1 ∧ cap1 ≤ maxLen ∧ z1.length = cap1 ∧ (∀ i, i < z1.length → w.cell? (x.add i) = some (.int .u32 (z1.getD i 0))) ∧ ∀ n ∈ z1, (Lit.int .u32 n).wf = true) (y1 : len1 * 4 ≤ 140737488351232) :
    Calls Try.prog 4 #[.int .u32 a0, .slice a1 len1 cap1] w fun e w' => e = .returned (.bool true) ∧ Below w.heap.size w w' := by
  obtain ⟨l1, rfl, hr1, hm1, hw1, hc1⟩ := ReadsInt.ofRowC w1
  obtain ⟨k, h⟩ := P a0 l1 w0 hm1 y1 hw1
  refine (chamberlainlaw11_PartGets.calls k a0 _ _ l1 true w (Kd.C_of_reads (d := (0 : Int)) (h1 := fun _ => rfl) hr1) hc1 h rfl).mono ?_
  rintro e w' ⟨rfl, hd⟩
  exact ⟨rfl, hd⟩

end Go.Proofs.Ytpbmmompbknimaa.PPartGets
