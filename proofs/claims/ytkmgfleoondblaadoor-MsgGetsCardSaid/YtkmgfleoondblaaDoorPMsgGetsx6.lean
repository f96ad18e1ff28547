-- Written for this claim by wip/tools/myprint.py (print.py's forms; proofs of the faked functions by hand).
import Derived.Test.YtkmgfleoondblaaDoorPMsgGetsx4
import Derived.Test.YtkmgfleoondblaaDoorPMsgGetsx0
import Derived.Test.YtkmgfleoondblaaDoorPMsgGetsx1
import Derived.Test.YtkmgfleoondblaaDoorPMsgGetsx2
import Derived.Test.YtkmgfleoondblaaDoorPMsgGetsx3
import Derived.Test.YtkmgfleoondblaaDoorPMsgGetsx5
namespace Go.Proofs.YtkmgfleoondblaaDoor.PMsgGets
open Go.RowKit Go.Proofs.YtkmgfleoondblaaDoorW.PrintWords Go.Proofs.YtkmgfleoondblaaDoorW.PrintLast Go.Proofs.YtkmgfleoondblaaDoorW.PrintMore
attribute [local go_sem] max2_int min2_int max_two min_two max_three min_three max_four min_four   -- for this text's walks alone
set_option linter.unusedVariables false
set_option linter.unusedSimpArgs false

attribute [local go_sem high] eqA24
/-! ### chamberlainlaw03_MsgGets: function 4 -/
def chamberlainlaw03_MsgGets.j0 : Nat → List Int → Bool → Option (Bool)
  | 0, _, _ => none
  | k + 1, x0, x13 => if x13 = true then ((chamberlainlaw03_awake.f k).bind fun t298 => (some t298)) else ((msg_Get.f k x0).bind fun bt299 => ((chamberlainref03_Get.f k x0).bind fun bt308 => (if (bt299.1 == bt308.1 && (bt299.2.1 == bt308.2.1 && (bt299.2.2.1 == bt308.2.2.1 && (bt299.2.2.2.1 == bt308.2.2.2.1 && (bt299.2.2.2.2.1 == bt308.2.2.2.2.1 && (bt299.2.2.2.2.2.1 == bt308.2.2.2.2.2.1 && (bt299.2.2.2.2.2.2.1 == bt308.2.2.2.2.2.2.1))))))) = true then (if bt299.2.2.2.2.2.2.2 = bt308.2.2.2.2.2.2.2 then ((msg_Kind.f k x0).bind fun t317 => (some (t317 == bt308.1))) else (some false)) else (some false))))
def chamberlainlaw03_MsgGets.f (k : Nat) (l0 : List Int) : Option (Bool) := (chamberlainlaw03_awake.f k).bind fun t297 => (if t297 = true then (chamberlainlaw03_MsgGets.j0 k l0 (decide ((l0.length : Int) > 200))) else (chamberlainlaw03_MsgGets.j0 k l0 true))
theorem chamberlainlaw03_MsgGets.mono_l : ∀ k, (∀ y0 y1, LeO (chamberlainlaw03_MsgGets.j0 k y0 y1) (chamberlainlaw03_MsgGets.j0 (k + 1) y0 y1))
  | 0 => fun _ _ r h => by simp [chamberlainlaw03_MsgGets.j0] at h
  | k + 1 => by
    have ih0 := chamberlainlaw03_MsgGets.mono_l k
    · intro y0 y1
      unfold chamberlainlaw03_MsgGets.j0
      repeat' first
      | (with_reducible exact ih0 _ _)
      | (with_reducible exact chamberlainlaw03_awake.mono _)
      | (with_reducible exact chamberlainref03_Get.mono _ _)
      | (with_reducible exact msg_Get.mono _ _)
      | (with_reducible exact msg_Kind.mono _ _)
      | (with_reducible exact LeO.refl _)
      | (with_reducible exact LeO.none _)
      | (with_reducible refine LeO.ite ?_ ?_)
      | (with_reducible refine LeO.bind ?_ (fun _ => ?_))
      | exact ih0 _ _
      | exact chamberlainlaw03_awake.mono _
      | exact chamberlainref03_Get.mono _ _
      | exact msg_Get.mono _ _
      | exact msg_Kind.mono _ _
      | exact LeO.none _
      | refine LeO.ite ?_ ?_
      | refine LeO.bind ?_ (fun _ => ?_)
theorem chamberlainlaw03_MsgGets.mono : ∀ a0 k, LeO (chamberlainlaw03_MsgGets.f k a0) (chamberlainlaw03_MsgGets.f (k + 1) a0) := by
  intro a0 k
  have ih0 := chamberlainlaw03_MsgGets.mono_l k
  unfold chamberlainlaw03_MsgGets.f
  repeat' first
      | (with_reducible exact ih0 _ _)
      | (with_reducible exact chamberlainlaw03_awake.mono _)
      | (with_reducible exact chamberlainref03_Get.mono _ _)
      | (with_reducible exact msg_Get.mono _ _)
      | (with_reducible exact msg_Kind.mono _ _)
      | (with_reducible exact LeO.refl _)
      | (with_reducible exact LeO.none _)
      | (with_reducible refine LeO.ite ?_ ?_)
      | (with_reducible refine LeO.bind ?_ (fun _ => ?_))
      | exact ih0 _ _
      | exact chamberlainlaw03_awake.mono _
      | exact chamberlainref03_Get.mono _ _
      | exact msg_Get.mono _ _
      | exact msg_Kind.mono _ _
      | exact LeO.none _
      | refine LeO.ite ?_ ?_
      | refine LeO.bind ?_ (fun _ => ?_)
def chamberlainlaw03_MsgGets.T5 : Bool × List (List Nat × List Nat) := (true, [([], []), ([], []), ([0, 1], [0, 1]), ([2], [2]), ([3], [3]), ([3], [3]), ([4, 5, 3], [3, 4, 5]), ([3, 6], [3, 6]), ([7, 3], [7]), ([8], [8]), ([9, 8, 8], [8, 9]), ([8], [8]), ([11, 8], [8, 11]), ([10, 12, 8], [8, 10, 12]), ([8, 13], [8, 13]), ([14, 10, 0, 1, 2, 3, 4, 5, 6, 7, 8, 9, 10, 11, 12, 13, 14], [14])])
def chamberlainlaw03_MsgGets.B5 : List Nat := [0, 0, 3, 7, 15, 15, 63, 127, 255, 511, 1023, 511, 2559, 8191, 16383, 32767]
theorem chamberlainlaw03_MsgGets.tab5 : rtab .any (opsOf Tryd.f4 5) = chamberlainlaw03_MsgGets.T5 := by kernel_rfl
theorem chamberlainlaw03_MsgGets.bits5 : waitsOk chamberlainlaw03_MsgGets.T5.2 chamberlainlaw03_MsgGets.B5 = true := by kernel_rfl
set_option maxHeartbeats 8000000 in
set_option maxRecDepth 100000 in
theorem chamberlainlaw03_MsgGets.calls (k : Nat) (A0 : Option Addr) (c0 : Nat) (l0 : List Int) (r : Bool) (w : World) (hG : GH w) (hr0 : Kd.C (Kd.int .u32) w A0 l0.length l0) (hc0 : l0.length ≤ c0) (h : chamberlainlaw03_MsgGets.f k l0 = some r) (hT0 : r = true) :
    Calls Tryd.prog 4 #[.slice A0 l0.length c0] w fun e w' => e = .returned (.bool r) ∧ Below w.heap.size w w' := by
  have hT := Aside0.mk hT0
  clear hT0
  have hu24 := Tryd.underlying24
  have HR0 := Aside0.mk hr0
  have HC0 := Aside0.mk hc0
  clear hr0 hc0
  have HB := Aside0.mk (Below.refl w.heap.size w)
  have H : ((chamberlainlaw03_awake.f k).bind fun t297 => (if t297 = true then (chamberlainlaw03_MsgGets.j0 k l0 (decide ((l0.length : Int) > 200))) else (chamberlainlaw03_MsgGets.j0 k l0 true))) = some r := h
  clear h
  have HC2 := Aside0.mk H
  clear H
  go_enter Tryd.func4, Tryd.ntmps4
  go_upto_region 1 with (fail)
  go_cut [13] (fun v13 wc => ∃ (kq : Nat) (x13_1 : Bool), v13 = .bool x13_1 ∧ Aside0 (chamberlainlaw03_MsgGets.j0 kq l0 x13_1 = some r) ∧ Aside0 (kq ≤ k) ∧ Aside0 (Below w.heap.size w wc))
  case first =>
    have H := HC2.out
    clear HC2
    replace H := Option.bind_eq_some_iff.mp H
    obtain ⟨t297, A30, H⟩ := H
    replace H : (if t297 = true then (chamberlainlaw03_MsgGets.j0 k l0 (decide ((l0.length : Int) > 200))) else (chamberlainlaw03_MsgGets.j0 k l0 true)) = some r := H
    have A3 := Aside0.mk A30
    clear A30
    by_cases c4 : t297 = true
    · subst c4
      have H1 : (chamberlainlaw03_MsgGets.j0 k l0 (decide ((l0.length : Int) > 200))) = some r := by rw [if_pos rfl] at H; exact H
      clear H
      have H := H1
      clear H1
      have H' := Aside0.mk H
      clear H
      go_wp2_with (first | ((with_reducible refine gate_callee (f := 8) rfl ?_); refine goesL_ (some 7) rfl rfl Tryd.func8 (by kernel_rfl) rfl #[] rfl (by (try simp only [List.map_toArray, List.map_cons, List.map_nil]); first | done | rfl | (simp only [List.length_drop, List.length_take]; rfl)) ?_; (with_reducible refine (chamberlainlaw03_awake.calls (hG := GH.below hG (by repeat (first | (with_reducible first | exact Aside0.out (by assumption) | apply below_alloc | apply pw_below_drewN | apply below_drew1 | refine below_set ?_ (Aside0.out (by assumption))) | exact Aside0.out (by assumption) | apply below_alloc | apply pw_below_drewN | apply below_drew1 | refine below_set ?_ (Aside0.out (by assumption))))) k  true _ A3.out).mono ?_); rintro e w5 ⟨rfl, hb⟩; refine ⟨_, rfl, ?_⟩; have n0_ := Aside0.mk (bs_ hb); clear HB; have HB := n0_; clear n0_; (try clear hb); (try clear hb2); (try clear hk); (try clear hi)))
      go_meet
      case rel => exact ⟨_, (decide ((l0.length : Int) > 200)), (by first | rfl | (simp; done) | (simp [*]; done)), H', ⟨by first | omega | exact Nat.le_refl _⟩, ⟨by repeat (first | (with_reducible first | exact HB.out | apply below_alloc | apply pw_below_drewN | apply below_drew1) | exact HB.out)⟩⟩
    · replace c4 := Bool.eq_false_iff.mpr c4
      subst c4
      have H1 : (chamberlainlaw03_MsgGets.j0 k l0 true) = some r := by rw [if_neg (show ¬ (false = true) by decide)] at H; exact H
      clear H
      have H := H1
      clear H1
      have H' := Aside0.mk H
      clear H
      go_wp2_with (first | ((with_reducible refine gate_callee (f := 8) rfl ?_); refine goesL_ (some 7) rfl rfl Tryd.func8 (by kernel_rfl) rfl #[] rfl (by (try simp only [List.map_toArray, List.map_cons, List.map_nil]); first | done | rfl | (simp only [List.length_drop, List.length_take]; rfl)) ?_; (with_reducible refine (chamberlainlaw03_awake.calls (hG := GH.below hG (by repeat (first | (with_reducible first | exact Aside0.out (by assumption) | apply below_alloc | apply pw_below_drewN | apply below_drew1 | refine below_set ?_ (Aside0.out (by assumption))) | exact Aside0.out (by assumption) | apply below_alloc | apply pw_below_drewN | apply below_drew1 | refine below_set ?_ (Aside0.out (by assumption))))) k  false _ A3.out).mono ?_); rintro e w6 ⟨rfl, hb⟩; refine ⟨_, rfl, ?_⟩; have n0_ := Aside0.mk (bs_ hb); clear HB; have HB := n0_; clear n0_; (try clear hb); (try clear hb2); (try clear hk); (try clear hi)))
      go_meet
      case rel => exact ⟨_, (true), (by first | rfl | (simp; done) | (simp [*]; done)), H', ⟨by first | omega | exact Nat.le_refl _⟩, ⟨by repeat (first | (with_reducible first | exact HB.out | apply below_alloc | apply pw_below_drewN | apply below_drew1) | exact HB.out)⟩⟩
  case rest =>
    clear HC2
    try clear p2
    try clear c4
    obtain ⟨kq, x13_1, rfl, HA, HJ1, HB⟩ := hcut
    cases kq with
    | zero => exact absurd HA.out (by simp [chamberlainlaw03_MsgGets.j0])
    | succ kj1 =>
      have H := HA.out
      clear HA
      simp only [chamberlainlaw03_MsgGets.j0] at H
      by_cases c7 : x13_1 = true
      · subst c7
        have H1 : ((chamberlainlaw03_awake.f kj1).bind fun t298 => (some t298)) = some r := by rw [if_pos rfl] at H; exact H
        clear H
        have H := H1
        clear H1
        replace H := Option.bind_eq_some_iff.mp H
        obtain ⟨t298, A80, H⟩ := H
        replace H : (some t298) = some r := H
        have A8 := Aside0.mk A80
        clear A80
        obtain rfl := Option.some.inj H
        go_wp2_with (first | ((with_reducible refine gate_callee (f := 8) rfl ?_); refine goesL_ (some 14) rfl rfl Tryd.func8 (by kernel_rfl) rfl #[] rfl (by (try simp only [List.map_toArray, List.map_cons, List.map_nil]); first | done | rfl | (simp only [List.length_drop, List.length_take]; rfl)) ?_; (with_reducible refine (chamberlainlaw03_awake.calls (hG := GH.below hG (by repeat (first | (with_reducible first | exact Aside0.out (by assumption) | apply below_alloc | apply pw_below_drewN | apply below_drew1 | refine below_set ?_ (Aside0.out (by assumption))) | exact Aside0.out (by assumption) | apply below_alloc | apply pw_below_drewN | apply below_drew1 | refine below_set ?_ (Aside0.out (by assumption))))) kj1  t298 _ A8.out).mono ?_); rintro e w9 ⟨rfl, hb⟩; refine ⟨_, rfl, ?_⟩; have n0_ := Aside0.mk (bs_ hb); clear HB; have HB := n0_; clear n0_; (try clear hb); (try clear hb2); (try clear hk); (try clear hi)))
        go_ret
        exact ⟨by first | rfl | (simp [errW_none, errW_some] <;> rfl) | (simp [*, errW_none, errW_some] <;> rfl), by repeat (first | (with_reducible first | exact HB.out | apply below_alloc | apply pw_below_drewN | apply below_drew1) | exact HB.out)⟩
      · replace c7 := Bool.eq_false_iff.mpr c7
        subst c7
        have H1 : ((msg_Get.f kj1 l0).bind fun bt299 => ((chamberlainref03_Get.f kj1 l0).bind fun bt308 => (if (bt299.1 == bt308.1 && (bt299.2.1 == bt308.2.1 && (bt299.2.2.1 == bt308.2.2.1 && (bt299.2.2.2.1 == bt308.2.2.2.1 && (bt299.2.2.2.2.1 == bt308.2.2.2.2.1 && (bt299.2.2.2.2.2.1 == bt308.2.2.2.2.2.1 && (bt299.2.2.2.2.2.2.1 == bt308.2.2.2.2.2.2.1))))))) = true then (if bt299.2.2.2.2.2.2.2 = bt308.2.2.2.2.2.2.2 then ((msg_Kind.f kj1 l0).bind fun t317 => (some (t317 == bt308.1))) else (some false)) else (some false)))) = some r := by rw [if_neg (show ¬ (false = true) by decide)] at H; exact H
        clear H
        have H := H1
        clear H1
        replace H := Option.bind_eq_some_iff.mp H
        obtain ⟨⟨t299, t300, t301, t302, t303, t304, t305, t306⟩, A100, H⟩ := H
        replace H : ((chamberlainref03_Get.f kj1 l0).bind fun bt308 => (if (t299 == bt308.1 && (t300 == bt308.2.1 && (t301 == bt308.2.2.1 && (t302 == bt308.2.2.2.1 && (t303 == bt308.2.2.2.2.1 && (t304 == bt308.2.2.2.2.2.1 && (t305 == bt308.2.2.2.2.2.2.1))))))) = true then (if t306 = bt308.2.2.2.2.2.2.2 then ((msg_Kind.f kj1 l0).bind fun t317 => (some (t317 == bt308.1))) else (some false)) else (some false))) = some r := H
        have A10 := Aside0.mk A100
        clear A100
        replace H := Option.bind_eq_some_iff.mp H
        obtain ⟨⟨t308, t309, t310, t311, t312, t313, t314, t315⟩, A110, H⟩ := H
        replace H : (if (t299 == t308 && (t300 == t309 && (t301 == t310 && (t302 == t311 && (t303 == t312 && (t304 == t313 && (t305 == t314))))))) = true then (if t306 = t315 then ((msg_Kind.f kj1 l0).bind fun t317 => (some (t317 == t308))) else (some false)) else (some false)) = some r := H
        have A11 := Aside0.mk A110
        clear A110
        by_cases c12 : (t299 == t308 && (t300 == t309 && (t301 == t310 && (t302 == t311 && (t303 == t312 && (t304 == t313 && (t305 == t314))))))) = true
        · rw [if_pos c12] at H
          have c12b0 : (t299 == t308 && (t300 == t309 && (t301 == t310 && (t302 == t311 && (t303 == t312 && (t304 == t313 && (t305 == t314))))))) = true := c12
          (try (have c12b1 : decide (t299 = t308 && (t300 == t309 && (t301 == t310 && (t302 == t311 && (t303 == t312 && (t304 == t313 && (t305 == t314))))))) = true := by simpa using c12))
          (try (have c12b2 : (t299 == t308 && (t300 == t309 && (t301 == t310 && (t302 == t311 && (t303 == t312 && (t304 == t313 && (t305 == t314))))))) = true := by simpa using c12))
          clear c12
          by_cases c13 : t306 = t315
          · rw [if_pos c13] at H
            have c13b0 : (t306 == t315) = true := beq_iff_eq.mpr c13
            have c13b1 : (t306 != t315) = false := bne_eq_false_iff_eq.mpr c13
            clear c13
            replace H := Option.bind_eq_some_iff.mp H
            obtain ⟨t317, A140, H⟩ := H
            replace H : (some (t317 == t308)) = some r := H
            have A14 := Aside0.mk A140
            clear A140
            obtain rfl := Option.some.inj H
            try go_wp2_with (first | ((with_reducible refine gate_callee (f := 14) rfl ?_); refine goesL_ (some 17) rfl rfl Tryd.func14 (by kernel_rfl) rfl #[.slice A0 l0.length c0] rfl (by (try simp only [List.map_toArray, List.map_cons, List.map_nil]); first | done | rfl | (simp only [List.length_drop, List.length_take]; rfl)) ?_; (with_reducible refine (msg_Get.calls (hG := GH.below hG (by repeat (first | (with_reducible first | exact Aside0.out (by assumption) | apply below_alloc | apply pw_below_drewN | apply below_drew1 | refine below_set ?_ (Aside0.out (by assumption))) | exact Aside0.out (by assumption) | apply below_alloc | apply pw_below_drewN | apply below_drew1 | refine below_set ?_ (Aside0.out (by assumption))))) kj1 _ _ l0 t299 t300 t301 t302 t303 t304 t305 t306 _ ?side1 ?side2 A10.out).mono ?_); (case side1 => repeat (first | exact (Kd.C_below HR0.out HB.out) | (with_reducible refine Kd.C_alloc ?_ _) | (with_reducible refine Kd.C_drewN ?_ _) | (with_reducible refine Kd.C_drew ?_))); (case side2 => exact HC0.out); rintro e w15 ⟨rfl, hb⟩; refine ⟨_, rfl, ?_⟩; have n0_ := Aside0.mk (bs_ hb); clear HB; have HB := n0_; clear n0_; (try clear hb); (try clear hb2); (try clear hk); (try clear hi)) | ((with_reducible refine gate_dst (N := 3) rfl ?_); (try (refine gate_guard (by rfl) ?_; dsimp only)); refine box_event ?hg (N := 3) ?hd (cs := #[.int .u32 0, .int .u32 0, .int .u32 0, .int .u32 0, .int .u32 0, .int .u32 0, .int .u32 0]) (t := 24) ?hr ?_; (case hd => rfl); (case hg => rfl); (case hr => first | (go_simp; done) | (go_simp; rfl)); intro gb307 hg w16 hbox hb; have n0_ := Aside0.mk (bs_ hb); have n1_ := Aside0.mk (hbox); have n2_ := Aside0.mk ((ge_ hg : w.heap.size ≤ gb307)); have n3_ := Aside0.mk ((ge_ hg : w.heap.size ≤ gb307)); clear HB; have HB := n0_; have BK307 := n1_; have GW307 := n2_; have GE307 := n3_; clear n0_ n1_ n2_ n3_; clear hb hbox hg; have ⟨hcz17_0, hcz17_1, hcz17_2, hcz17_3, hcz17_4, hcz17_5, hcz17_6⟩ := cz7_ BK307.out; have ⟨hfz17_0, hfz17_1, hfz17_2, hfz17_3, hfz17_4, hfz17_5, hfz17_6⟩ := fz7_ BK307.out) | ((with_reducible refine gate_callee (f := 15) rfl ?_); refine goesL_ (some 22) rfl rfl Tryd.func15 (by kernel_rfl) rfl #[.slice A0 l0.length c0] rfl (by (try simp only [List.map_toArray, List.map_cons, List.map_nil]); first | done | rfl | (simp only [List.length_drop, List.length_take]; rfl)) ?_; (with_reducible refine (chamberlainref03_Get.calls kj1 _ _ l0 t308 t309 t310 t311 t312 t313 t314 t315 _ ?side1 ?side2 A11.out).mono ?_); (case side1 => exact Kd.C_below HR0.out (by repeat (first | (with_reducible first | exact HB.out | apply below_alloc | apply pw_below_drewN | apply below_drew1 | refine below_set ?_ GE307.out) | exact HB.out))); (case side2 => exact HC0.out); rintro e w18 ⟨rfl, hb⟩; refine ⟨_, rfl, ?_⟩; have n0_ := Aside0.mk (blk_below (g := gb307) (o := .cells #[.int .u32 t299, .int .u32 t300, .int .u32 t301, .int .u32 t302, .int .u32 t303, .int .u32 t304, .int .u32 t305] 24 (0, 0)) (bp7_ BK307.out) hb); have n1_ := Aside0.mk (bs_ hb); clear BK307; clear HB; have BK307 := n0_; have HB := n1_; clear n0_ n1_; (try clear hb); (try clear hb2); (try clear hk); (try clear hi)) | ((with_reducible refine gate_dst (N := 5) rfl ?_); (try (refine gate_guard (by rfl) ?_; dsimp only)); refine box_event ?hg (N := 5) ?hd (cs := #[.int .u32 0, .int .u32 0, .int .u32 0, .int .u32 0, .int .u32 0, .int .u32 0, .int .u32 0]) (t := 24) ?hr ?_; (case hd => rfl); (case hg => rfl); (case hr => first | (go_simp; done) | (go_simp; rfl)); intro gb316 hg w19 hbox hb; have n0_ := Aside0.mk (bb_ BK307.out hb); have n1_ := Aside0.mk (bs_ hb); have n2_ := Aside0.mk (hbox); have n3_ := Aside0.mk ((ge_ hg : w.heap.size ≤ gb316)); have n4_ := Aside0.mk ((ge_ hg : w.heap.size ≤ gb316)); have n5_ := Aside0.mk ((by rw [hg]; exact Nat.ne_of_lt (blk_lt (g := gb307) (o := .cells #[.int .u32 t299, .int .u32 t300, .int .u32 t301, .int .u32 t302, .int .u32 t303, .int .u32 t304, .int .u32 t305] 24 (0, 0)) (by (with_reducible repeat (first | refine blk_drewN ?_ _ | refine blk_drew ?_ | refine blk_alloc ?_ _)); exact BK307.out)) : gb307 ≠ gb316)); have n6_ := Aside0.mk ((by rw [hg]; exact Nat.ne_of_gt (blk_lt (g := gb307) (o := .cells #[.int .u32 t299, .int .u32 t300, .int .u32 t301, .int .u32 t302, .int .u32 t303, .int .u32 t304, .int .u32 t305] 24 (0, 0)) (by (with_reducible repeat (first | refine blk_drewN ?_ _ | refine blk_drew ?_ | refine blk_alloc ?_ _)); exact BK307.out)) : gb316 ≠ gb307)); clear BK307; clear HB; have BK307 := n0_; have HB := n1_; have BK316 := n2_; have GW316 := n3_; have GE316 := n4_; have NB307_316 := n5_; have NB316_307 := n6_; clear n0_ n1_ n2_ n3_ n4_ n5_ n6_; clear hb hbox hg; have hnb20 := NB316_307.out; have hnc20 := NB307_316.out; have ⟨hcz21_0, hcz21_1, hcz21_2, hcz21_3, hcz21_4, hcz21_5, hcz21_6⟩ := cz7_ BK316.out; have ⟨hfz21_0, hfz21_1, hfz21_2, hfz21_3, hfz21_4, hfz21_5, hfz21_6⟩ := fz7_ BK316.out))
            have n0_ : Aside0 ((((((((w19.setCell ⟨gb316, 0, none⟩ (.int .u32 t308)).setCell ⟨gb316, 1, none⟩ (.int .u32 t309)).setCell ⟨gb316, 2, none⟩ (.int .u32 t310)).setCell ⟨gb316, 3, none⟩ (.int .u32 t311)).setCell ⟨gb316, 4, none⟩ (.int .u32 t312)).setCell ⟨gb316, 5, none⟩ (.int .u32 t313)).setCell ⟨gb316, 6, none⟩ (.int .u32 t314)).heap[gb307]? = some (.cells #[.int .u32 t299, .int .u32 t300, .int .u32 t301, .int .u32 t302, .int .u32 t303, .int .u32 t304, .int .u32 t305] 24 (0, 0))) := ⟨by (with_reducible repeat (first | refine blk_drewN ?_ _ | refine blk_drew ?_ | refine blk_alloc ?_ _)); refine blk_far ?_ NB307_316.out _; (with_reducible repeat (first | refine blk_drewN ?_ _ | refine blk_drew ?_ | refine blk_alloc ?_ _)); refine blk_far ?_ NB307_316.out _; (with_reducible repeat (first | refine blk_drewN ?_ _ | refine blk_drew ?_ | refine blk_alloc ?_ _)); refine blk_far ?_ NB307_316.out _; (with_reducible repeat (first | refine blk_drewN ?_ _ | refine blk_drew ?_ | refine blk_alloc ?_ _)); refine blk_far ?_ NB307_316.out _; (with_reducible repeat (first | refine blk_drewN ?_ _ | refine blk_drew ?_ | refine blk_alloc ?_ _)); refine blk_far ?_ NB307_316.out _; (with_reducible repeat (first | refine blk_drewN ?_ _ | refine blk_drew ?_ | refine blk_alloc ?_ _)); refine blk_far ?_ NB307_316.out _; (with_reducible repeat (first | refine blk_drewN ?_ _ | refine blk_drew ?_ | refine blk_alloc ?_ _)); refine blk_far ?_ NB307_316.out _; (with_reducible repeat (first | refine blk_drewN ?_ _ | refine blk_drew ?_ | refine blk_alloc ?_ _)); exact BK307.out⟩
            have n1_ : Aside0 ((((((((w19.setCell ⟨gb316, 0, none⟩ (.int .u32 t308)).setCell ⟨gb316, 1, none⟩ (.int .u32 t309)).setCell ⟨gb316, 2, none⟩ (.int .u32 t310)).setCell ⟨gb316, 3, none⟩ (.int .u32 t311)).setCell ⟨gb316, 4, none⟩ (.int .u32 t312)).setCell ⟨gb316, 5, none⟩ (.int .u32 t313)).setCell ⟨gb316, 6, none⟩ (.int .u32 t314)).heap[gb316]? = some (.cells #[.int .u32 t308, .int .u32 t309, .int .u32 t310, .int .u32 t311, .int .u32 t312, .int .u32 t313, .int .u32 t314] 24 (0, 0))) := ⟨by (with_reducible repeat (first | refine blk_drewN ?_ _ | refine blk_drew ?_ | refine blk_alloc ?_ _)); refine blk_put (cs := #[.int .u32 t308, .int .u32 t309, .int .u32 t310, .int .u32 t311, .int .u32 t312, .int .u32 t313, .int .u32 0]) ?_ 6 _ rfl; (with_reducible repeat (first | refine blk_drewN ?_ _ | refine blk_drew ?_ | refine blk_alloc ?_ _)); refine blk_put (cs := #[.int .u32 t308, .int .u32 t309, .int .u32 t310, .int .u32 t311, .int .u32 t312, .int .u32 0, .int .u32 0]) ?_ 5 _ rfl; (with_reducible repeat (first | refine blk_drewN ?_ _ | refine blk_drew ?_ | refine blk_alloc ?_ _)); refine blk_put (cs := #[.int .u32 t308, .int .u32 t309, .int .u32 t310, .int .u32 t311, .int .u32 0, .int .u32 0, .int .u32 0]) ?_ 4 _ rfl; (with_reducible repeat (first | refine blk_drewN ?_ _ | refine blk_drew ?_ | refine blk_alloc ?_ _)); refine blk_put (cs := #[.int .u32 t308, .int .u32 t309, .int .u32 t310, .int .u32 0, .int .u32 0, .int .u32 0, .int .u32 0]) ?_ 3 _ rfl; (with_reducible repeat (first | refine blk_drewN ?_ _ | refine blk_drew ?_ | refine blk_alloc ?_ _)); refine blk_put (cs := #[.int .u32 t308, .int .u32 t309, .int .u32 0, .int .u32 0, .int .u32 0, .int .u32 0, .int .u32 0]) ?_ 2 _ rfl; (with_reducible repeat (first | refine blk_drewN ?_ _ | refine blk_drew ?_ | refine blk_alloc ?_ _)); refine blk_put (cs := #[.int .u32 t308, .int .u32 0, .int .u32 0, .int .u32 0, .int .u32 0, .int .u32 0, .int .u32 0]) ?_ 1 _ rfl; (with_reducible repeat (first | refine blk_drewN ?_ _ | refine blk_drew ?_ | refine blk_alloc ?_ _)); refine blk_put (cs := #[.int .u32 0, .int .u32 0, .int .u32 0, .int .u32 0, .int .u32 0, .int .u32 0, .int .u32 0]) ?_ 0 _ rfl; (with_reducible repeat (first | refine blk_drewN ?_ _ | refine blk_drew ?_ | refine blk_alloc ?_ _)); exact BK316.out⟩
            have n2_ : Aside0 (Below w.heap.size w (((((((w19.setCell ⟨gb316, 0, none⟩ (.int .u32 t308)).setCell ⟨gb316, 1, none⟩ (.int .u32 t309)).setCell ⟨gb316, 2, none⟩ (.int .u32 t310)).setCell ⟨gb316, 3, none⟩ (.int .u32 t311)).setCell ⟨gb316, 4, none⟩ (.int .u32 t312)).setCell ⟨gb316, 5, none⟩ (.int .u32 t313)).setCell ⟨gb316, 6, none⟩ (.int .u32 t314))) := ⟨by repeat (first | (with_reducible first | exact HB.out | apply below_alloc | apply pw_below_drewN | apply below_drew1 | refine below_set ?_ GE307.out | refine below_set ?_ GE316.out) | exact HB.out)⟩
            (try clear BK307)
            (try clear BK316)
            (try clear HB)
            generalize (((((((w19.setCell ⟨gb316, 0, none⟩ (.int .u32 t308)).setCell ⟨gb316, 1, none⟩ (.int .u32 t309)).setCell ⟨gb316, 2, none⟩ (.int .u32 t310)).setCell ⟨gb316, 3, none⟩ (.int .u32 t311)).setCell ⟨gb316, 4, none⟩ (.int .u32 t312)).setCell ⟨gb316, 5, none⟩ (.int .u32 t313)).setCell ⟨gb316, 6, none⟩ (.int .u32 t314)) = w22 at n0_ n1_ n2_ ⊢
            have BK307 := n0_
            have BK316 := n1_
            have HB := n2_
            clear n0_ n1_ n2_
            have n0_ := Aside0.mk (blk_drew BK307.out)
            have n1_ := Aside0.mk (blk_drew BK316.out)
            have n2_ := Aside0.mk (below_drew1 HB.out)
            clear BK307
            clear BK316
            clear HB
            have BK307 := n0_
            have BK316 := n1_
            have HB := n2_
            clear n0_ n1_ n2_
            refine start_ (n := 16) (S := fun w' => w'.cell? ⟨gb307, 0, none⟩ = some (.int .u32 t299) ∧ w'.cell? ⟨gb307, 1, none⟩ = some (.int .u32 t300) ∧ w'.cell? ⟨gb307, 2, none⟩ = some (.int .u32 t301) ∧ w'.cell? ⟨gb307, 3, none⟩ = some (.int .u32 t302) ∧ w'.cell? ⟨gb307, 4, none⟩ = some (.int .u32 t303) ∧ w'.cell? ⟨gb307, 5, none⟩ = some (.int .u32 t304) ∧ w'.cell? ⟨gb307, 6, none⟩ = some (.int .u32 t305) ∧ w'.cell? ⟨gb316, 0, none⟩ = some (.int .u32 t308) ∧ w'.cell? ⟨gb316, 1, none⟩ = some (.int .u32 t309) ∧ w'.cell? ⟨gb316, 2, none⟩ = some (.int .u32 t310) ∧ w'.cell? ⟨gb316, 3, none⟩ = some (.int .u32 t311) ∧ w'.cell? ⟨gb316, 4, none⟩ = some (.int .u32 t312) ∧ w'.cell? ⟨gb316, 5, none⟩ = some (.int .u32 t313) ∧ w'.cell? ⟨gb316, 6, none⟩ = some (.int .u32 t314)) (ds := []) #[false, false, false, false, false, false, false, false, false, false, false, false, false, false, false, false] (by kernel_rfl) rfl rfl ⟨(blk_cell BK307.out 0).trans rfl, (blk_cell BK307.out 1).trans rfl, (blk_cell BK307.out 2).trans rfl, (blk_cell BK307.out 3).trans rfl, (blk_cell BK307.out 4).trans rfl, (blk_cell BK307.out 5).trans rfl, (blk_cell BK307.out 6).trans rfl, (blk_cell BK316.out 0).trans rfl, (blk_cell BK316.out 1).trans rfl, (blk_cell BK316.out 2).trans rfl, (blk_cell BK316.out 3).trans rfl, (blk_cell BK316.out 4).trans rfl, (blk_cell BK316.out 5).trans rfl, (blk_cell BK316.out 6).trans rfl⟩ (fun hHeld => ?_); refine with_tabW chamberlainlaw03_MsgGets.tab5 chamberlainlaw03_MsgGets.bits5 (fun HT_ HW_ => ?_)
            generalize w22.drew = w23 at BK307 BK316 HB hHeld ⊢
            refine take_ (i := 0) (N := some 25) (v := ?_) (a' := ?_) #[true, false, false, false, false, false, false, false, false, false, false, false, false, false, false, false] rfl rfl (take_ofW HT_.out HW_.out (by kernel_rfl)) (fun _ _ _ h => h) (Or.inl ⟨by rfl, ?_⟩) hHeld ?_ ?_
            rotate_left
            · rintro w' ⟨s0, s1, s2, s3, s4, s5, s6, s7, s8, s9, s10, s11, s12, s13⟩
              go_simp
              with_reducible rfl
            rotate_left
            · simp only [Act.put, List.setIfInBounds_toArray, List.set_cons_zero, List.set_cons_succ, i64_w, i32_w]
              rfl
            refine take_ (i := 1) (N := some 26) (v := ?_) (a' := ?_) #[true, true, false, false, false, false, false, false, false, false, false, false, false, false, false, false] rfl rfl (take_ofW HT_.out HW_.out (by kernel_rfl)) (fun _ _ _ h => h) (Or.inl ⟨by rfl, ?_⟩) hHeld ?_ ?_
            rotate_left
            · rintro w' ⟨s0, s1, s2, s3, s4, s5, s6, s7, s8, s9, s10, s11, s12, s13⟩
              go_simp
              with_reducible rfl
            rotate_left
            · simp only [Act.put, List.setIfInBounds_toArray, List.set_cons_zero, List.set_cons_succ, i64_w, i32_w]
              rfl
            refine pure_ (i := 2) (N := some 27) (v := ?_) (a' := ?_) #[true, true, true, false, false, false, false, false, false, false, false, false, false, false, false, false] rfl rfl (any_of HT_.out (by kernel_rfl)) (fun _ _ _ h => h) (Or.inl ⟨by rfl, ?_⟩) ?_ ?_
            rotate_left
            · intro w'
              go_simp
              with_reducible rfl
            rotate_left
            · simp only [Act.put, List.setIfInBounds_toArray, List.set_cons_zero, List.set_cons_succ, i64_w, i32_w]
              rfl
            refine pure_ (i := 3) (N := some 28) (v := ?_) (a' := ?_) #[true, true, true, true, false, false, false, false, false, false, false, false, false, false, false, false] rfl rfl (any_of HT_.out (by kernel_rfl)) (fun _ _ _ h => h) (Or.inl ⟨by rfl, ?_⟩) ?_ ?_
            rotate_left
            · intro w'
              go_simp
              with_reducible rfl
            rotate_left
            · simp only [Act.put, List.setIfInBounds_toArray, List.set_cons_zero, List.set_cons_succ, i64_w, i32_w]
              rfl
            refine pure_ (i := 4) (N := some 29) (v := ?_) (a' := ?_) #[true, true, true, true, true, false, false, false, false, false, false, false, false, false, false, false] rfl rfl (any_of HT_.out (by kernel_rfl)) (fun _ _ _ h => h) (Or.inl ⟨by rfl, ?_⟩) ?_ ?_
            rotate_left
            · intro w'
              go_simp
              with_reducible rfl
            rotate_left
            · simp only [Act.put, List.setIfInBounds_toArray, List.set_cons_zero, List.set_cons_succ, i64_w, i32_w]
              rfl
            refine pure_ (i := 5) (N := some 30) (v := ?_) (a' := ?_) #[true, true, true, true, true, true, false, false, false, false, false, false, false, false, false, false] rfl rfl (any_of HT_.out (by kernel_rfl)) (fun _ _ _ h => h) (Or.inl ⟨by rfl, ?_⟩) ?_ ?_
            rotate_left
            · intro w'
              go_simp
              with_reducible rfl
            rotate_left
            · simp only [Act.put, List.setIfInBounds_toArray, List.set_cons_zero, List.set_cons_succ, i64_w, i32_w]
              rfl
            refine pure_ (i := 6) (N := some 31) (v := ?_) (a' := ?_) #[true, true, true, true, true, true, true, false, false, false, false, false, false, false, false, false] rfl rfl (any_of HT_.out (by kernel_rfl)) (fun _ _ _ h => h) (Or.inl ⟨by rfl, ?_⟩) ?_ ?_
            rotate_left
            · intro w'
              go_simp
              with_reducible rfl
            rotate_left
            · simp only [Act.put, List.setIfInBounds_toArray, List.set_cons_zero, List.set_cons_succ, i64_w, i32_w]
              rfl
            refine pure_ (i := 7) (N := some 32) (v := ?_) (a' := ?_) #[true, true, true, true, true, true, true, true, false, false, false, false, false, false, false, false] rfl rfl (any_of HT_.out (by kernel_rfl)) (fun _ _ _ h => h) (Or.inl ⟨by rfl, ?_⟩) ?_ ?_
            rotate_left
            · intro w'
              go_simp
              with_reducible rfl
            rotate_left
            · simp only [Act.put, List.setIfInBounds_toArray, List.set_cons_zero, List.set_cons_succ, i64_w, i32_w]
              rfl
            refine pure_ (i := 8) (N := some 33) (v := ?_) (a' := ?_) #[true, true, true, true, true, true, true, true, true, false, false, false, false, false, false, false] rfl rfl (any_of HT_.out (by kernel_rfl)) (fun _ _ _ h => h) (Or.inl ⟨by rfl, ?_⟩) ?_ ?_
            rotate_left
            · intro w'
              go_simp
              with_reducible rfl
            rotate_left
            · simp only [Act.put, List.setIfInBounds_toArray, List.set_cons_zero, List.set_cons_succ, i64_w, i32_w]
              rfl
            refine pure_ (i := 9) (N := some 34) (v := ?_) (a' := ?_) #[true, true, true, true, true, true, true, true, true, true, false, false, false, false, false, false] rfl rfl (any_of HT_.out (by kernel_rfl)) (fun _ _ _ h => h) (Or.inl ⟨by rfl, ?_⟩) ?_ ?_
            rotate_left
            · intro w'
              go_simp
              with_reducible rfl
            rotate_left
            · simp only [Act.put, List.setIfInBounds_toArray, List.set_cons_zero, List.set_cons_succ, i64_w, i32_w]
              rfl
            refine pure_ (i := 11) (N := some 36) (v := ?_) (a' := ?_) #[true, true, true, true, true, true, true, true, true, true, false, true, false, false, false, false] rfl rfl (any_of HT_.out (by kernel_rfl)) (fun _ _ _ h => h) (Or.inl ⟨by rfl, ?_⟩) ?_ ?_
            rotate_left
            · intro w'
              go_simp
              with_reducible rfl
            rotate_left
            · simp only [Act.put, List.setIfInBounds_toArray, List.set_cons_zero, List.set_cons_succ, i64_w, i32_w]
              rfl
            refine take_ (i := 12) (N := some 37) (v := ?_) (a' := ?_) #[true, true, true, true, true, true, true, true, true, true, false, true, true, false, false, false] rfl rfl (take_ofW HT_.out HW_.out (by kernel_rfl)) (fun _ _ _ h => h) (Or.inl ⟨by rfl, ?_⟩) hHeld ?_ ?_
            rotate_left
            · rintro w' ⟨s0, s1, s2, s3, s4, s5, s6, s7, s8, s9, s10, s11, s12, s13⟩
              go_simp
              with_reducible rfl
            rotate_left
            · simp only [Act.put, List.setIfInBounds_toArray, List.set_cons_zero, List.set_cons_succ, i64_w, i32_w]
              rfl
            refine one_ (i := 10) (N := some 35) #[true, true, true, true, true, true, true, true, true, true, true, true, true, false, false, false] rfl rfl (one_of HT_.out (by kernel_rfl)) (by decide) (fun K hK => ?_)
            refine goes_ Tryd.func16 (by kernel_rfl) rfl #[.slice A0 l0.length c0] (by rfl) rfl rfl (by (try simp only [List.map_toArray, List.map_cons, List.map_nil]); first | done | rfl | (simp only [List.length_drop, List.length_take]; rfl)) ?_
            with_reducible refine (msg_Kind.calls (hG := GH.below hG (by repeat (first | (with_reducible first | exact Aside0.out (by assumption) | apply below_alloc | apply pw_below_drewN | apply below_drew1 | refine below_set ?_ (Aside0.out (by assumption))) | exact Aside0.out (by assumption) | apply below_alloc | apply pw_below_drewN | apply below_drew1 | refine below_set ?_ (Aside0.out (by assumption))))) kj1 _ _ l0 t317 _ ?side1 ?side2 A14.out).mono ?_
            (case side1 => repeat (first | exact (Kd.C_below HR0.out HB.out) | (with_reducible refine Kd.C_alloc ?_ _) | (with_reducible refine Kd.C_drewN ?_ _) | (with_reducible refine Kd.C_drew ?_)))
            (case side2 => exact HC0.out)
            rintro e w24 ⟨rfl, hb⟩
            refine ⟨_, rfl, ?_⟩
            have n0_ := Aside0.mk (bb_ BK307.out hb)
            have n1_ := Aside0.mk (bb_ BK316.out hb)
            have n2_ := Aside0.mk (bs_ hb)
            clear BK307
            clear BK316
            clear HB
            have BK307 := n0_
            have BK316 := n1_
            have HB := n2_
            clear n0_ n1_ n2_
            (try clear hb)
            (try clear hb2)
            (try clear hk)
            (try clear hi)
            refine hK.out _ _ ⟨(blk_cell BK307.out 0).trans rfl, (blk_cell BK307.out 1).trans rfl, (blk_cell BK307.out 2).trans rfl, (blk_cell BK307.out 3).trans rfl, (blk_cell BK307.out 4).trans rfl, (blk_cell BK307.out 5).trans rfl, (blk_cell BK307.out 6).trans rfl, (blk_cell BK316.out 0).trans rfl, (blk_cell BK316.out 1).trans rfl, (blk_cell BK316.out 2).trans rfl, (blk_cell BK316.out 3).trans rfl, (blk_cell BK316.out 4).trans rfl, (blk_cell BK316.out 5).trans rfl, (blk_cell BK316.out 6).trans rfl⟩ (fun hHeld => ?_)
            clear hK K
            refine norm_ (a' := ?_) ?_ ?_
            rotate_left
            · show Act.put _ (some 35) _ = _
              simp only [Act.put, List.setIfInBounds_toArray, List.set_cons_zero, List.set_cons_succ, i64_w, i32_w]
              rfl
            refine pure_ (i := 13) (N := some 38) (v := ?_) (a' := ?_) #[true, true, true, true, true, true, true, true, true, true, true, true, true, true, false, false] rfl rfl (any_of HT_.out (by kernel_rfl)) (fun _ _ _ h => h) (Or.inl ⟨by rfl, ?_⟩) ?_ ?_
            rotate_left
            · intro w'
              go_simp
              with_reducible rfl
            rotate_left
            · simp only [Act.put, List.setIfInBounds_toArray, List.set_cons_zero, List.set_cons_succ, i64_w, i32_w]
              rfl
            refine pure_ (i := 14) (N := some 39) (v := ?_) (a' := ?_) #[true, true, true, true, true, true, true, true, true, true, true, true, true, true, true, false] rfl rfl (any_of HT_.out (by kernel_rfl)) (fun _ _ _ h => h) (Or.inl ⟨by rfl, ?_⟩) ?_ ?_
            rotate_left
            · intro w'
              go_simp
              with_reducible rfl
            rotate_left
            · simp only [Act.put, List.setIfInBounds_toArray, List.set_cons_zero, List.set_cons_succ, i64_w, i32_w]
              rfl
            refine pure_ (i := 15) (N := some 2) (v := ?_) (a' := ?_) #[true, true, true, true, true, true, true, true, true, true, true, true, true, true, true, true] rfl rfl (any_of HT_.out (by kernel_rfl)) (fun _ _ _ h => h) (Or.inl ⟨by rfl, ?_⟩) ?_ ?_
            rotate_left
            · intro w'
              go_simp
              with_reducible rfl
            rotate_left
            · simp only [Act.put, List.setIfInBounds_toArray, List.set_cons_zero, List.set_cons_succ, i64_w, i32_w]
              rfl
            refine done_ (done_of HT_.out (by kernel_rfl)) ?_
            try go_wp2
            go_ret
            exact ⟨by first | rfl | (simp [errW_none, errW_some] <;> rfl) | (simp [*, errW_none, errW_some] <;> rfl), by repeat (first | (with_reducible first | exact HB.out | apply below_alloc | apply pw_below_drewN | apply below_drew1 | refine below_set ?_ GE307.out | refine below_set ?_ GE316.out) | exact HB.out)⟩
          · rw [if_neg c13] at H
            have c13b0 : (t306 == t315) = false := beq_eq_false_iff_ne.mpr c13
            have c13b1 : (t306 != t315) = true := bne_iff_ne.mpr c13
            exact absurd (hT.out.symm.trans (Option.some.inj H).symm) (by decide)
        · rw [if_neg c12] at H
          have c12b0 : (t299 == t308 && (t300 == t309 && (t301 == t310 && (t302 == t311 && (t303 == t312 && (t304 == t313 && (t305 == t314))))))) = false := by simpa using c12
          (try (have c12b1 : decide (t299 = t308 && (t300 == t309 && (t301 == t310 && (t302 == t311 && (t303 == t312 && (t304 == t313 && (t305 == t314))))))) = false := by simpa using c12))
          (try (have c12b2 : (t299 == t308 && (t300 == t309 && (t301 == t310 && (t302 == t311 && (t303 == t312 && (t304 == t313 && (t305 == t314))))))) = false := by simpa using c12))
          (try (have c12b3 : ¬ (t299 = t308 && (t300 == t309 && (t301 == t310 && (t302 == t311 && (t303 == t312 && (t304 == t313 && (t305 == t314))))))) := by simpa using c12))
          clear c12
          exact absurd (hT.out.symm.trans (Option.some.inj H).symm) (by decide)

/-- THE ONE PURE STATEMENT of chamberlainlaw03_MsgGets: yours. -/
def chamberlainlaw03_MsgGets.Pure : Prop := ∀ (l0 : List Int), l0.length ≤ maxLen → l0.length * 4 ≤ 140737488351232 → (∀ x ∈ l0, (Lit.int .u32 x).wf = true) → ∃ k, chamberlainlaw03_MsgGets.f k l0 = some true
theorem chamberlainlaw03_MsgGets.walk (P : chamberlainlaw03_MsgGets.Pure) (a0 : Option Addr) (len0 cap0 : Nat) (z0 : List Int) (w : World) (hG : GH w) (w0 : (a0 = none ∧ len0 = 0 ∧ cap0 = 0 ∧ z0 = []) ∨ ∃ x, a0 = some x ∧ len0 ≤ cap0 ∧ cap0 ≤ maxLen ∧ z0.length = cap0 ∧ (∀ i, i < z0.length → w.cell? (x.add i) = some (.int .u32 (z0.getD i 0))) ∧ ∀ n ∈ z0, (Lit.int .u32 n).wf = true) (y0 : len0 * 4 ≤ 140737488351232) :
    Calls Tryd.prog 4 #[.slice a0 len0 cap0] w fun e w' => e = .returned (.bool true) ∧ Below w.heap.size w w' := by
  obtain ⟨l0, rfl, hr0, hm0, hw0, hc0⟩ := ReadsInt.ofRowC w0
  obtain ⟨k, h⟩ := P l0 hm0 y0 hw0
  refine (chamberlainlaw03_MsgGets.calls (hG := hG) k _ _ l0 true w (Kd.C_of_reads (d := (0 : Int)) (h1 := fun _ => rfl) hr0) hc0 h rfl).mono ?_
  rintro e w' ⟨rfl, hd⟩
  exact ⟨rfl, hd⟩

end Go.Proofs.YtkmgfleoondblaaDoor.PMsgGets
