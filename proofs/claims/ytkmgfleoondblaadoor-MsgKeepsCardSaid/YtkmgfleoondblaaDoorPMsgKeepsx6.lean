-- Written for this claim by wip/tools/myprint.py (print.py's forms; proofs of the faked functions by hand).
import Derived.Test.YtkmgfleoondblaaDoorPMsgKeepsx4
import Derived.Test.YtkmgfleoondblaaDoorPMsgKeepsx0
import Derived.Test.YtkmgfleoondblaaDoorPMsgKeepsx1
import Derived.Test.YtkmgfleoondblaaDoorPMsgKeepsx2
import Derived.Test.YtkmgfleoondblaaDoorPMsgKeepsx3
import Derived.Test.YtkmgfleoondblaaDoorPMsgKeepsx5
namespace Go.Proofs.YtkmgfleoondblaaDoor.PMsgKeeps
open Go.RowKit Go.Proofs.YtkmgfleoondblaaDoorW.PrintWords Go.Proofs.YtkmgfleoondblaaDoorW.PrintLast Go.Proofs.YtkmgfleoondblaaDoorW.PrintMore
attribute [local go_sem] max2_int min2_int max_two min_two max_three min_three max_four min_four   -- for this text's walks alone
set_option linter.unusedVariables false
set_option linter.unusedSimpArgs false

attribute [local go_sem high] eqA24
/-! ### chamberlainlaw03_MsgKeeps: function 7 -/
mutual
def chamberlainlaw03_MsgKeeps.j0 : Nat → List Int → Bool → Option (Bool)
  | 0, _, _ => none
  | k + 1, x0, x15 => if x15 = true then ((chamberlainlaw03_awake.f k).bind fun t298 => (some t298)) else ((some (([] : List Int) : List Int)).bind fun y299 => (if y299.length + x0.length < 35184372088832 then ((some (y299 ++ x0 : List Int)).bind fun y302 => ((msg_Get.f k y302).bind fun bt305 => ((msg_Kind.f k y302).bind fun t314 => ((chamberlainref01_Same.f k y302 x0).bind fun t315 => (if t315 = true then (chamberlainlaw03_MsgKeeps.l0 k x0 y302 bt305.2.2.2.2.2.2.2 0 bt305.1 bt305.2.1 bt305.2.2.1 bt305.2.2.2.1 bt305.2.2.2.2.1 bt305.2.2.2.2.2.1 bt305.2.2.2.2.2.2.1) else (some false)))))) else (none)))
def chamberlainlaw03_MsgKeeps.l0 : Nat → List Int → List Int → Int → Int → Int → Int → Int → Int → Int → Int → Int → Option (Bool)
  | 0, _, _, _, _, _, _, _, _, _, _, _ => none
  | k + 1, x0, x3, x5, x6, x314000, x314001, x314002, x314003, x314004, x314005, x314006 => if x6 < (x3.length : Int) then (if 0 ≤ x6 then (chamberlainlaw03_MsgKeeps.l0 k x0 (x3.set (x6 : Int).toNat 5) x5 (wrap64 (x6 + 1)) x314000 x314001 x314002 x314003 x314004 x314005 x314006) else (none)) else ((chamberlainref03_Get.f k x0).bind fun bt317 => (if (x314000 == bt317.1 && (x314001 == bt317.2.1 && (x314002 == bt317.2.2.1 && (x314003 == bt317.2.2.2.1 && (x314004 == bt317.2.2.2.2.1 && (x314005 == bt317.2.2.2.2.2.1 && (x314006 == bt317.2.2.2.2.2.2.1))))))) = true then (some (x5 == bt317.2.2.2.2.2.2.2)) else (some false)))
end
def chamberlainlaw03_MsgKeeps.f (k : Nat) (l0 : List Int) : Option (Bool) := (chamberlainlaw03_awake.f k).bind fun t297 => (if t297 = true then (chamberlainlaw03_MsgKeeps.j0 k l0 (decide ((l0.length : Int) > 200))) else (chamberlainlaw03_MsgKeeps.j0 k l0 true))
theorem chamberlainlaw03_MsgKeeps.mono_l : ∀ k, (∀ y0 y1, LeO (chamberlainlaw03_MsgKeeps.j0 k y0 y1) (chamberlainlaw03_MsgKeeps.j0 (k + 1) y0 y1)) ∧ (∀ y0 y1 y2 y3 y4 y5 y6 y7 y8 y9 y10, LeO (chamberlainlaw03_MsgKeeps.l0 k y0 y1 y2 y3 y4 y5 y6 y7 y8 y9 y10) (chamberlainlaw03_MsgKeeps.l0 (k + 1) y0 y1 y2 y3 y4 y5 y6 y7 y8 y9 y10))
  | 0 => ⟨fun _ _ r h => by simp [chamberlainlaw03_MsgKeeps.j0] at h, fun _ _ _ _ _ _ _ _ _ _ _ r h => by simp [chamberlainlaw03_MsgKeeps.l0] at h⟩
  | k + 1 => by
    obtain ⟨ih0, ih1⟩ := chamberlainlaw03_MsgKeeps.mono_l k
    refine ⟨?_, ?_⟩
    · intro y0 y1
      unfold chamberlainlaw03_MsgKeeps.j0
      repeat' first
      | (with_reducible exact ih0 _ _)
      | (with_reducible exact ih1 _ _ _ _ _ _ _ _ _ _ _)
      | (with_reducible exact chamberlainlaw03_awake.mono _)
      | (with_reducible exact chamberlainref01_Same.mono _ _ _)
      | (with_reducible exact chamberlainref03_Get.mono _ _)
      | (with_reducible exact msg_Get.mono _ _)
      | (with_reducible exact msg_Kind.mono _ _)
      | (with_reducible exact LeO.refl _)
      | (with_reducible exact LeO.none _)
      | (with_reducible refine LeO.ite ?_ ?_)
      | (with_reducible refine LeO.bind ?_ (fun _ => ?_))
      | exact ih0 _ _
      | exact ih1 _ _ _ _ _ _ _ _ _ _ _
      | exact chamberlainlaw03_awake.mono _
      | exact chamberlainref01_Same.mono _ _ _
      | exact chamberlainref03_Get.mono _ _
      | exact msg_Get.mono _ _
      | exact msg_Kind.mono _ _
      | exact LeO.none _
      | refine LeO.ite ?_ ?_
      | refine LeO.bind ?_ (fun _ => ?_)
    · intro y0 y1 y2 y3 y4 y5 y6 y7 y8 y9 y10
      unfold chamberlainlaw03_MsgKeeps.l0
      repeat' first
      | (with_reducible exact ih0 _ _)
      | (with_reducible exact ih1 _ _ _ _ _ _ _ _ _ _ _)
      | (with_reducible exact chamberlainlaw03_awake.mono _)
      | (with_reducible exact chamberlainref01_Same.mono _ _ _)
      | (with_reducible exact chamberlainref03_Get.mono _ _)
      | (with_reducible exact msg_Get.mono _ _)
      | (with_reducible exact msg_Kind.mono _ _)
      | (with_reducible exact LeO.refl _)
      | (with_reducible exact LeO.none _)
      | (with_reducible refine LeO.ite ?_ ?_)
      | (with_reducible refine LeO.bind ?_ (fun _ => ?_))
      | exact ih0 _ _
      | exact ih1 _ _ _ _ _ _ _ _ _ _ _
      | exact chamberlainlaw03_awake.mono _
      | exact chamberlainref01_Same.mono _ _ _
      | exact chamberlainref03_Get.mono _ _
      | exact msg_Get.mono _ _
      | exact msg_Kind.mono _ _
      | exact LeO.none _
      | refine LeO.ite ?_ ?_
      | refine LeO.bind ?_ (fun _ => ?_)
theorem chamberlainlaw03_MsgKeeps.mono : ∀ a0 k, LeO (chamberlainlaw03_MsgKeeps.f k a0) (chamberlainlaw03_MsgKeeps.f (k + 1) a0) := by
  intro a0 k
  obtain ⟨ih0, ih1⟩ := chamberlainlaw03_MsgKeeps.mono_l k
  unfold chamberlainlaw03_MsgKeeps.f
  repeat' first
      | (with_reducible exact ih0 _ _)
      | (with_reducible exact ih1 _ _ _ _ _ _ _ _ _ _ _)
      | (with_reducible exact chamberlainlaw03_awake.mono _)
      | (with_reducible exact chamberlainref01_Same.mono _ _ _)
      | (with_reducible exact chamberlainref03_Get.mono _ _)
      | (with_reducible exact msg_Get.mono _ _)
      | (with_reducible exact msg_Kind.mono _ _)
      | (with_reducible exact LeO.refl _)
      | (with_reducible exact LeO.none _)
      | (with_reducible refine LeO.ite ?_ ?_)
      | (with_reducible refine LeO.bind ?_ (fun _ => ?_))
      | exact ih0 _ _
      | exact ih1 _ _ _ _ _ _ _ _ _ _ _
      | exact chamberlainlaw03_awake.mono _
      | exact chamberlainref01_Same.mono _ _ _
      | exact chamberlainref03_Get.mono _ _
      | exact msg_Get.mono _ _
      | exact msg_Kind.mono _ _
      | exact LeO.none _
      | refine LeO.ite ?_ ?_
      | refine LeO.bind ?_ (fun _ => ?_)
set_option maxHeartbeats 8000000 in
set_option maxRecDepth 100000 in
theorem chamberlainlaw03_MsgKeeps.calls (k : Nat) (A0 : Option Addr) (c0 : Nat) (l0 : List Int) (r : Bool) (w : World) (hG : GH w) (hr0 : Kd.C (Kd.int .u32) w A0 l0.length l0) (hc0 : l0.length ≤ c0) (h : chamberlainlaw03_MsgKeeps.f k l0 = some r) (hT0 : r = true) :
    Calls Tryd.prog 7 #[.slice A0 l0.length c0] w fun e w' => e = .returned (.bool r) ∧ Below w.heap.size w w' := by
  have hT := Aside0.mk hT0
  clear hT0
  have hu24 := Tryd.underlying24
  have HR0 := Aside0.mk hr0
  have HC0 := Aside0.mk hc0
  clear hr0 hc0
  have HB := Aside0.mk (Below.refl w.heap.size w)
  have H : ((chamberlainlaw03_awake.f k).bind fun t297 => (if t297 = true then (chamberlainlaw03_MsgKeeps.j0 k l0 (decide ((l0.length : Int) > 200))) else (chamberlainlaw03_MsgKeeps.j0 k l0 true))) = some r := h
  clear h
  have HC2 := Aside0.mk H
  clear H
  go_enter Tryd.func7, Tryd.ntmps7
  go_upto_region 1 with (fail)
  go_cut [15] (fun v15 wc => ∃ (kq : Nat) (x15_1 : Bool), v15 = .bool x15_1 ∧ Aside0 (chamberlainlaw03_MsgKeeps.j0 kq l0 x15_1 = some r) ∧ Aside0 (kq ≤ k) ∧ Aside0 (Below w.heap.size w wc))
  case first =>
    have H := HC2.out
    clear HC2
    replace H := Option.bind_eq_some_iff.mp H
    obtain ⟨t297, A30, H⟩ := H
    replace H : (if t297 = true then (chamberlainlaw03_MsgKeeps.j0 k l0 (decide ((l0.length : Int) > 200))) else (chamberlainlaw03_MsgKeeps.j0 k l0 true)) = some r := H
    have A3 := Aside0.mk A30
    clear A30
    by_cases c4 : t297 = true
    · subst c4
      have H1 : (chamberlainlaw03_MsgKeeps.j0 k l0 (decide ((l0.length : Int) > 200))) = some r := by rw [if_pos rfl] at H; exact H
      clear H
      have H := H1
      clear H1
      have H' := Aside0.mk H
      clear H
      go_wp2_with (first | ((with_reducible refine gate_callee (f := 8) rfl ?_); refine goesL_ (some 9) rfl rfl Tryd.func8 (by kernel_rfl) rfl #[] rfl (by (try simp only [List.map_toArray, List.map_cons, List.map_nil]); first | done | rfl | (simp only [List.length_drop, List.length_take]; rfl)) ?_; (with_reducible refine (chamberlainlaw03_awake.calls (hG := GH.below hG (by repeat (first | (with_reducible first | exact Aside0.out (by assumption) | apply below_alloc | apply pw_below_drewN | apply below_drew1 | refine below_set ?_ (Aside0.out (by assumption))) | exact Aside0.out (by assumption) | apply below_alloc | apply pw_below_drewN | apply below_drew1 | refine below_set ?_ (Aside0.out (by assumption))))) k  true _ A3.out).mono ?_); rintro e w5 ⟨rfl, hb⟩; refine ⟨_, rfl, ?_⟩; have n0_ := Aside0.mk (bs_ hb); clear HB; have HB := n0_; clear n0_; (try clear hb); (try clear hb2); (try clear hk); (try clear hi)))
      go_meet
      case rel => exact ⟨_, (decide ((l0.length : Int) > 200)), (by first | rfl | (simp; done) | (simp [*]; done)), H', ⟨by first | omega | exact Nat.le_refl _⟩, ⟨by repeat (first | (with_reducible first | exact HB.out | apply below_alloc | apply pw_below_drewN | apply below_drew1) | exact HB.out)⟩⟩
    · replace c4 := Bool.eq_false_iff.mpr c4
      subst c4
      have H1 : (chamberlainlaw03_MsgKeeps.j0 k l0 true) = some r := by rw [if_neg (show ¬ (false = true) by decide)] at H; exact H
      clear H
      have H := H1
      clear H1
      have H' := Aside0.mk H
      clear H
      go_wp2_with (first | ((with_reducible refine gate_callee (f := 8) rfl ?_); refine goesL_ (some 9) rfl rfl Tryd.func8 (by kernel_rfl) rfl #[] rfl (by (try simp only [List.map_toArray, List.map_cons, List.map_nil]); first | done | rfl | (simp only [List.length_drop, List.length_take]; rfl)) ?_; (with_reducible refine (chamberlainlaw03_awake.calls (hG := GH.below hG (by repeat (first | (with_reducible first | exact Aside0.out (by assumption) | apply below_alloc | apply pw_below_drewN | apply below_drew1 | refine below_set ?_ (Aside0.out (by assumption))) | exact Aside0.out (by assumption) | apply below_alloc | apply pw_below_drewN | apply below_drew1 | refine below_set ?_ (Aside0.out (by assumption))))) k  false _ A3.out).mono ?_); rintro e w6 ⟨rfl, hb⟩; refine ⟨_, rfl, ?_⟩; have n0_ := Aside0.mk (bs_ hb); clear HB; have HB := n0_; clear n0_; (try clear hb); (try clear hb2); (try clear hk); (try clear hi)))
      go_meet
      case rel => exact ⟨_, (true), (by first | rfl | (simp; done) | (simp [*]; done)), H', ⟨by first | omega | exact Nat.le_refl _⟩, ⟨by repeat (first | (with_reducible first | exact HB.out | apply below_alloc | apply pw_below_drewN | apply below_drew1) | exact HB.out)⟩⟩
  case rest =>
    clear HC2
    try clear p2
    try clear c4
    obtain ⟨kq, x15_1, rfl, HA, HJ1, HB⟩ := hcut
    cases kq with
    | zero => exact absurd HA.out (by simp [chamberlainlaw03_MsgKeeps.j0])
    | succ kj1 =>
      have H := HA.out
      clear HA
      simp only [chamberlainlaw03_MsgKeeps.j0] at H
      by_cases c7 : x15_1 = true
      · subst c7
        have H1 : ((chamberlainlaw03_awake.f kj1).bind fun t298 => (some t298)) = some r := by rw [if_pos rfl] at H; exact H
        clear H
        have H := H1
        clear H1
        replace H := Option.bind_eq_some_iff.mp H
        obtain ⟨t298, A80, H⟩ := H
        replace H : (some t298) = some r := H
        have A8 := Aside0.mk A80
        clear A80
        obtain rfl := Option.some.inj H
        go_wp2_with (first | ((with_reducible refine gate_callee (f := 8) rfl ?_); refine goesL_ (some 16) rfl rfl Tryd.func8 (by kernel_rfl) rfl #[] rfl (by (try simp only [List.map_toArray, List.map_cons, List.map_nil]); first | done | rfl | (simp only [List.length_drop, List.length_take]; rfl)) ?_; (with_reducible refine (chamberlainlaw03_awake.calls (hG := GH.below hG (by repeat (first | (with_reducible first | exact Aside0.out (by assumption) | apply below_alloc | apply pw_below_drewN | apply below_drew1 | refine below_set ?_ (Aside0.out (by assumption))) | exact Aside0.out (by assumption) | apply below_alloc | apply pw_below_drewN | apply below_drew1 | refine below_set ?_ (Aside0.out (by assumption))))) kj1  t298 _ A8.out).mono ?_); rintro e w9 ⟨rfl, hb⟩; refine ⟨_, rfl, ?_⟩; have n0_ := Aside0.mk (bs_ hb); clear HB; have HB := n0_; clear n0_; (try clear hb); (try clear hb2); (try clear hk); (try clear hi)))
        go_ret
        exact ⟨by first | rfl | (simp [errW_none, errW_some] <;> rfl) | (simp [*, errW_none, errW_some] <;> rfl), by repeat (first | (with_reducible first | exact HB.out | apply below_alloc | apply pw_below_drewN | apply below_drew1) | exact HB.out)⟩
      · replace c7 := Bool.eq_false_iff.mpr c7
        subst c7
        have H1 : ((some (([] : List Int) : List Int)).bind fun y299 => (if y299.length + l0.length < 35184372088832 then ((some (y299 ++ l0 : List Int)).bind fun y302 => ((msg_Get.f kj1 y302).bind fun bt305 => ((msg_Kind.f kj1 y302).bind fun t314 => ((chamberlainref01_Same.f kj1 y302 l0).bind fun t315 => (if t315 = true then (chamberlainlaw03_MsgKeeps.l0 kj1 l0 y302 bt305.2.2.2.2.2.2.2 0 bt305.1 bt305.2.1 bt305.2.2.1 bt305.2.2.2.1 bt305.2.2.2.2.1 bt305.2.2.2.2.2.1 bt305.2.2.2.2.2.2.1) else (some false)))))) else (none))) = some r := by rw [if_neg (show ¬ (false = true) by decide)] at H; exact H
        clear H
        have H := H1
        clear H1
        obtain ⟨y299, hy299⟩ : ∃ y_ : List Int, y_ = (([] : List Int)) := ⟨_, rfl⟩
        replace H : (if y299.length + l0.length < 35184372088832 then ((some (y299 ++ l0 : List Int)).bind fun y302 => ((msg_Get.f kj1 y302).bind fun bt305 => ((msg_Kind.f kj1 y302).bind fun t314 => ((chamberlainref01_Same.f kj1 y302 l0).bind fun t315 => (if t315 = true then (chamberlainlaw03_MsgKeeps.l0 kj1 l0 y302 bt305.2.2.2.2.2.2.2 0 bt305.1 bt305.2.1 bt305.2.2.1 bt305.2.2.2.1 bt305.2.2.2.2.1 bt305.2.2.2.2.2.1 bt305.2.2.2.2.2.2.1) else (some false)))))) else (none)) = some r := by first | (rw [hy299]; with_reducible exact H) | (have H2_ := (Option.bind_some _ _).symm.trans H; rw [hy299]; with_reducible exact H2_) | (have H2_ := (Option.bind_some _ _).symm.trans H; with_reducible exact H2_) | with_reducible exact H | (rw [hy299]; exact H) | exact H
        have Ny299 := Aside0.mk hy299
        clear hy299
        by_cases c10 : y299.length + l0.length < 35184372088832
        · rw [if_pos c10] at H
          have LMc10 := Aside0.mk c10
          clear c10
          obtain ⟨y302, hy302⟩ : ∃ y_ : List Int, y_ = (y299 ++ l0) := ⟨_, rfl⟩
          replace H : ((msg_Get.f kj1 y302).bind fun bt305 => ((msg_Kind.f kj1 y302).bind fun t314 => ((chamberlainref01_Same.f kj1 y302 l0).bind fun t315 => (if t315 = true then (chamberlainlaw03_MsgKeeps.l0 kj1 l0 y302 bt305.2.2.2.2.2.2.2 0 bt305.1 bt305.2.1 bt305.2.2.1 bt305.2.2.2.1 bt305.2.2.2.2.1 bt305.2.2.2.2.2.1 bt305.2.2.2.2.2.2.1) else (some false))))) = some r := by first | (rw [hy302]; with_reducible exact H) | (have H2_ := (Option.bind_some _ _).symm.trans H; rw [hy302]; with_reducible exact H2_) | (have H2_ := (Option.bind_some _ _).symm.trans H; with_reducible exact H2_) | with_reducible exact H | (rw [hy302]; exact H) | exact H
          have Ny302 := Aside0.mk hy302
          clear hy302
          replace H := Option.bind_eq_some_iff.mp H
          obtain ⟨⟨t305, t306, t307, t308, t309, t310, t311, t312⟩, A110, H⟩ := H
          replace H : ((msg_Kind.f kj1 y302).bind fun t314 => ((chamberlainref01_Same.f kj1 y302 l0).bind fun t315 => (if t315 = true then (chamberlainlaw03_MsgKeeps.l0 kj1 l0 y302 t312 0 t305 t306 t307 t308 t309 t310 t311) else (some false)))) = some r := H
          have A11 := Aside0.mk A110
          clear A110
          replace H := Option.bind_eq_some_iff.mp H
          obtain ⟨t314, A120, H⟩ := H
          replace H : ((chamberlainref01_Same.f kj1 y302 l0).bind fun t315 => (if t315 = true then (chamberlainlaw03_MsgKeeps.l0 kj1 l0 y302 t312 0 t305 t306 t307 t308 t309 t310 t311) else (some false))) = some r := H
          have A12 := Aside0.mk A120
          clear A120
          replace H := Option.bind_eq_some_iff.mp H
          obtain ⟨t315, A130, H⟩ := H
          replace H : (if t315 = true then (chamberlainlaw03_MsgKeeps.l0 kj1 l0 y302 t312 0 t305 t306 t307 t308 t309 t310 t311) else (some false)) = some r := H
          have A13 := Aside0.mk A130
          clear A130
          by_cases c14 : t315 = true
          · subst c14
            have H1 : (chamberlainlaw03_MsgKeeps.l0 kj1 l0 y302 t312 0 t305 t306 t307 t308 t309 t310 t311) = some r := by rw [if_pos rfl] at H; exact H
            clear H
            have H := H1
            clear H1
            have H' := Aside0.mk H
            clear H
            go_wp2_with (first | ((with_reducible refine gate_dst (N := 17) rfl ?_); (try (refine gate_guard (by rfl) ?_; dsimp only)); refine Kd.R_lit (Kd.int .u32) _ 22 ?hg (N := 17) ?hd (xs := ([] : List Int)) (inner := []) (ok := fun _ => True) (okp := fun _ => True) ?hr ?hp (fun _ hk => hk) trivial (Below.refl _ _) (Nat.le_refl _) (by simp) ?_; (case hd => rfl); (case hg => rfl); (case hr => first | (go_simp; done) | (go_simp; rfl)); (case hp => exact (Reps.none _ _)); intro v300 w15 ho16 hb hg_ hnew_; clear hg_ hnew_; (first | rw [← Ny299.out] at ho16 | (simp only [Int.reduceToNat] at ho16; rw [← Ny299.out] at ho16)); have n0_ := Aside0.mk (Kd.R_lower ho16 (below_size (by repeat (first | (with_reducible first | exact HB.out | apply below_alloc | apply pw_below_drewN | apply below_drew1) | exact HB.out)))); have n1_ := Aside0.mk (bs_ hb); clear HB; have HO301 := n0_; have HB := n1_; clear n0_ n1_; clear hb ho16) | ((with_reducible refine gate_builtin (b := .append) (xs := #[.tmp 17, .tmp 18]) rfl ?_); (try (refine gate_guard (by rfl) ?_; dsimp only)); at_builtin; refine Kd.R_append_rows (Kd.int .u32) (w0 := w) w.heap.size rfl (.tmp 17) (.tmp 18) 26 22 (.int .u32 0) 4 rfl Tryd.underlying26 info22 rfl (by decide) (by omega) v300 y299 l0 _ _ _ (fun _ => True) (fun _ => False) rfl rfl ?aO ?aR (fun _ _ h => h) (fun _ h => h.elim) ?aF ?aB ?aS ?aL ?_; (case aR => repeat (first | exact (Kd.C_below HR0.out HB.out) | (with_reducible refine Kd.C_alloc ?_ _) | (with_reducible refine Kd.C_drewN ?_ _) | (with_reducible refine Kd.C_drew ?_))); (case aB => exact (by repeat (first | (with_reducible first | exact HB.out | apply below_alloc | apply pw_below_drewN | apply below_drew1) | exact HB.out))); (case aF => exact (fun _ _ => trivial)); (case aO => exact (by (with_reducible repeat (first | apply Kd.R_alloc | apply Kd.R_drewN | apply Kd.R_drew)); exact HO301.out)); (case aS => exact (below_size (by repeat (first | (with_reducible first | exact HB.out | apply below_alloc | apply pw_below_drewN | apply below_drew1) | exact HB.out)))); (case aL => have := LMc10.out; omega); intro v303 w17 ho hb hg hat; rw [← Ny302.out] at ho; have n0_ := Aside0.mk (hb); have n1_ := Aside0.mk (ho); clear HB; clear HO301; have HB := n0_; have HO304 := n1_; clear n0_ n1_; clear ho hb hg hat; obtain ⟨Ao18, co18, eo18⟩ := Kd.R_slice HO304.out; subst eo18) | ((with_reducible refine gate_callee (f := 14) rfl ?_); refine goesL_ (some 22) rfl rfl Tryd.func14 (by kernel_rfl) rfl #[.slice Ao18 y302.length co18] rfl (by (try simp only [List.map_toArray, List.map_cons, List.map_nil]); first | done | rfl | (simp only [List.length_drop, List.length_take]; rfl)) ?_; (with_reducible refine (msg_Get.calls (hG := GH.below hG (by repeat (first | (with_reducible first | exact Aside0.out (by assumption) | apply below_alloc | apply pw_below_drewN | apply below_drew1 | refine below_set ?_ (Aside0.out (by assumption))) | exact Aside0.out (by assumption) | apply below_alloc | apply pw_below_drewN | apply below_drew1 | refine below_set ?_ (Aside0.out (by assumption))))) kj1 _ _ y302 t305 t306 t307 t308 t309 t310 t311 t312 _ ?side1 ?side2 A11.out).mono ?_); (case side1 => repeat (first | exact (Kd.R_reads' HO304.out).2.2 | (with_reducible refine Kd.C_alloc ?_ _) | (with_reducible refine Kd.C_drewN ?_ _) | (with_reducible refine Kd.C_drew ?_))); (case side2 => exact (Kd.R_reads' HO304.out).2.1); rintro e w19 ⟨rfl, hb⟩; refine ⟨_, rfl, ?_⟩; have n0_ := Aside0.mk (rb_ HO304.out hb); have n1_ := Aside0.mk (bs_ hb); clear HO304; clear HB; have HO304 := n0_; have HB := n1_; clear n0_ n1_; (try clear hb); (try clear hb2); (try clear hk); (try clear hi)) | ((with_reducible refine gate_dst (N := 4) rfl ?_); (try (refine gate_guard (by rfl) ?_; dsimp only)); refine box_event ?hg (N := 4) ?hd (cs := #[.int .u32 0, .int .u32 0, .int .u32 0, .int .u32 0, .int .u32 0, .int .u32 0, .int .u32 0]) (t := 24) ?hr ?_; (case hd => rfl); (case hg => rfl); (case hr => first | (go_simp; done) | (go_simp; rfl)); intro gb313 hg w20 hbox hb; have n0_ := Aside0.mk (rb_ HO304.out hb); have n1_ := Aside0.mk (bs_ hb); have n2_ := Aside0.mk (hbox); have n3_ := Aside0.mk ((ge_ hg : w.heap.size ≤ gb313)); have n4_ := Aside0.mk ((ge_ hg : w.heap.size ≤ gb313)); clear HO304; clear HB; have HO304 := n0_; have HB := n1_; have BK313 := n2_; have GW313 := n3_; have GE313 := n4_; clear n0_ n1_ n2_ n3_ n4_; clear hb hbox hg; have ⟨hcz21_0, hcz21_1, hcz21_2, hcz21_3, hcz21_4, hcz21_5, hcz21_6⟩ := cz7_ BK313.out; have ⟨hfz21_0, hfz21_1, hfz21_2, hfz21_3, hfz21_4, hfz21_5, hfz21_6⟩ := fz7_ BK313.out) | ((with_reducible refine gate_callee (f := 16) rfl ?_); refine goesL_ (some 26) rfl rfl Tryd.func16 (by kernel_rfl) rfl #[.slice Ao18 y302.length co18] rfl (by (try simp only [List.map_toArray, List.map_cons, List.map_nil]); first | done | rfl | (simp only [List.length_drop, List.length_take]; rfl)) ?_; (with_reducible refine (msg_Kind.calls (hG := GH.below hG (by repeat (first | (with_reducible first | exact Aside0.out (by assumption) | apply below_alloc | apply pw_below_drewN | apply below_drew1 | refine below_set ?_ (Aside0.out (by assumption))) | exact Aside0.out (by assumption) | apply below_alloc | apply pw_below_drewN | apply below_drew1 | refine below_set ?_ (Aside0.out (by assumption))))) kj1 _ _ y302 t314 _ ?side1 ?side2 A12.out).mono ?_); (case side1 => refine (Kd.R_reads' (e := 22) (base := w.heap.size) (ok := fun k_ => True) (n := y302.length) (c := co18) ?_).2.2; exact (by (with_reducible repeat (first | apply Kd.R_alloc | apply Kd.R_drewN | apply Kd.R_drew)); exact (Kd.R_mono (r7_ (g := gb313) (Kd.R_types HO304.out BK313.out (by decide))) (fun _ h_ => h_.1)))); (case side2 => exact (Kd.R_reads' HO304.out).2.1); rintro e w22 ⟨rfl, hb⟩; refine ⟨_, rfl, ?_⟩; have n0_ := Aside0.mk (Kd.R_below (by (with_reducible repeat (first | apply Kd.R_alloc | apply Kd.R_drewN | apply Kd.R_drew)); exact (Kd.R_mono (r7_ (g := gb313) (Kd.R_types HO304.out BK313.out (by decide))) (fun _ h_ => h_.1))) hb); have n1_ := Aside0.mk (blk_below (g := gb313) (o := .cells #[.int .u32 t305, .int .u32 t306, .int .u32 t307, .int .u32 t308, .int .u32 t309, .int .u32 t310, .int .u32 t311] 24 (0, 0)) (bp7_ BK313.out) hb); have n2_ := Aside0.mk (bs_ hb); clear HO304; clear BK313; clear HB; have HO304 := n0_; have BK313 := n1_; have HB := n2_; clear n0_ n1_ n2_; (try clear hb); (try clear hb2); (try clear hk); (try clear hi)) | ((with_reducible refine gate_callee (f := 13) rfl ?_); refine goesL_ (some 29) rfl rfl Tryd.func13 (by kernel_rfl) rfl #[.slice Ao18 y302.length co18, .slice A0 l0.length c0] rfl (by (try simp only [List.map_toArray, List.map_cons, List.map_nil]); first | done | rfl | (simp only [List.length_drop, List.length_take]; rfl)) ?_; (with_reducible refine (chamberlainref01_Same.calls kj1 _ _ y302 _ _ l0 true _ ?side1 ?side2 ?side3 ?side4 A13.out).mono ?_); (case side1 => repeat (first | exact (Kd.R_reads' HO304.out).2.2 | (with_reducible refine Kd.C_alloc ?_ _) | (with_reducible refine Kd.C_drewN ?_ _) | (with_reducible refine Kd.C_drew ?_))); (case side2 => exact (Kd.R_reads' HO304.out).2.1); (case side3 => repeat (first | exact (Kd.C_below HR0.out HB.out) | (with_reducible refine Kd.C_alloc ?_ _) | (with_reducible refine Kd.C_drewN ?_ _) | (with_reducible refine Kd.C_drew ?_))); (case side4 => exact HC0.out); rintro e w' ⟨rfl, ⟨nd, rfl⟩⟩; refine ⟨_, rfl, ?_⟩))
            go_loopg [6] kj1 (fun kq v6 w' => ∃ (x3_2 : List Int) (x6_2 : Int), v6 = .int .i64 x6_2 ∧ Aside0 (chamberlainlaw03_MsgKeeps.l0 kq l0 x3_2 t312 x6_2 t305 t306 t307 t308 t309 t310 t311 = some r) ∧ Aside0 (kq ≤ kj1) ∧ Aside0 (Kd.R (Kd.int .u32) 22 w' w.heap.size (fun _ => True) (.slice Ao18 y302.length co18) x3_2) ∧ Aside0 (w'.heap[gb313]? = some (.cells #[.int .u32 t305, .int .u32 t306, .int .u32 t307, .int .u32 t308, .int .u32 t309, .int .u32 t310, .int .u32 t311] 24 (0, 0))) ∧ Aside0 (Below w.heap.size w w'))
            case atStart => exact ⟨(y302), (0), (by first | rfl | (simp; done) | (simp [*]; done)), H', ⟨Nat.le_refl _⟩, ⟨by (with_reducible repeat (first | apply Kd.R_alloc | apply Kd.R_drewN | apply Kd.R_drew)); exact HO304.out⟩, ⟨by (with_reducible repeat (first | refine blk_drewN ?_ _ | refine blk_drew ?_ | refine blk_alloc ?_ _)); exact BK313.out⟩, ⟨by repeat (first | (with_reducible first | exact HB.out | apply below_alloc | apply pw_below_drewN | apply below_drew1 | refine below_set ?_ GE313.out) | exact HB.out)⟩⟩
            case round =>
              clear H'
              try clear c1
              try clear p2
              try clear c4
              try clear c7
              try clear c8
              try clear c10
              try clear c13
              try clear c14
              try clear c16
              try clear hcz21_0
              try clear hcz21_1
              try clear hcz21_2
              try clear hcz21_3
              try clear hcz21_4
              try clear hcz21_5
              try clear hcz21_6
              try clear hfz21_0
              try clear hfz21_1
              try clear hfz21_2
              try clear hfz21_3
              try clear hfz21_4
              try clear hfz21_5
              try clear hfz21_6
              try clear p2
              obtain ⟨x3_2, x6_2, rfl, HA, HK2, HO_3, BK313, HB⟩ := hrel
              have hl3_2 := (Kd.R_reads' HO_3.out).1
              rw [hl3_2] at HO_3
              (try simp only [hl3_2])
              (try simp only [hl3_2] at BK313)
              cases gk with
              | zero => exact absurd HA.out (by simp [chamberlainlaw03_MsgKeeps.l0])
              | succ k2 =>
                have H := HA.out
                clear HA
                simp only [chamberlainlaw03_MsgKeeps.l0] at H
                by_cases c23 : x6_2 < (x3_2.length : Int)
                · rw [if_pos c23] at H
                  have c23b0 : decide (x6_2 < (x3_2.length : Int)) = true := decide_eq_true c23
                  clear c23
                  by_cases c24 : 0 ≤ x6_2
                  · rw [if_pos c24] at H
                    have c24b0 : decide (0 ≤ x6_2) = true := decide_eq_true c24
                    clear c24
                    obtain ⟨y316, hy316⟩ : ∃ y_ : List Int, y_ = (x3_2.set (x6_2 : Int).toNat 5) := ⟨_, rfl⟩
                    replace H : (chamberlainlaw03_MsgKeeps.l0 k2 l0 y316 t312 (wrap64 (x6_2 + 1)) t305 t306 t307 t308 t309 t310 t311) = some r := by first | (rw [hy316]; with_reducible exact H) | (have H2_ := (Option.bind_some _ _).symm.trans H; rw [hy316]; with_reducible exact H2_) | (have H2_ := (Option.bind_some _ _).symm.trans H; with_reducible exact H2_) | with_reducible exact H | (rw [hy316]; exact H) | exact H
                    have Ny316 := Aside0.mk hy316
                    clear hy316
                    have H' := Aside0.mk H
                    clear H
                    have p25 : 0 ≤ (x6_2 : Int) := of_decide_eq_true (by first | (with_reducible assumption) | assumption)
                    have q25 : (x6_2 : Int) < ((x3_2.length : Int) : Int) := of_decide_eq_true (by first | (with_reducible assumption) | assumption)
                    obtain ⟨go25, co25, eo25, gb25, gl25, cl25, HG25⟩ := Kd.R_form HO_3.out (by omega)
                    (first | cases eo25 | (injection eo25 with ea_ en_ ec_; (first | subst ea_ | (injection ea_ with ea_; subst ea_)); subst ec_; clear en_))
                    have GB25 := Aside0.mk gb25
                    have GG25 := Aside0.mk HG25
                    clear gb25 gl25 HG25
                    obtain ⟨hx25_0, hf25_0⟩ := Kd.R_celln 0 HO_3.out (x6_2 : Int) p25 q25
                    replace p25 := eq_true p25
                    replace q25 := eq_true q25
                    have HP26 := Kd.R_putg HO_3.out (x6_2 : Int) 5
                    go_wp2_with (first | ((with_reducible refine gate_store (t := 22) (p := 39) rfl ?_); refine store_event (t := 22) (p := 39) (v := ?vo_w27) (w1 := (wr.setCell ⟨go25, (x6_2 : Int).toNat, none⟩ (.int .u32 5))) ?hg ?ho ?hn ?hr ?_; (case ho => rfl); (case hg => rfl); (case hn => rfl); (case hr => first | (go_simp; done) | (go_simp; rfl)); intro w27 hw; have hg : wr.grownBy w27 (some go25) := (by rw [hw]; exact HP26.2); have hp_ : Kd.R (Kd.int .u32) 22 w27 w.heap.size (fun _ => True) (.slice (some ⟨go25, 0, none⟩) x3_2.length co18) y316 := (by rw [hw, Ny316.out]; exact HP26.1); clear HP26; have n0_ := Aside0.mk (hp_); have n1_ := Aside0.mk (blk_grown (g := gb313) (o := .cells #[.int .u32 t305, .int .u32 t306, .int .u32 t307, .int .u32 t308, .int .u32 t309, .int .u32 t310, .int .u32 t311] 24 (0, 0)) (by (with_reducible repeat (first | refine blk_drewN ?_ _ | refine blk_drew ?_ | refine blk_alloc ?_ _)); exact BK313.out) hg (Kd.R_ne HO_3.out BK313.out (by decide))); have n2_ := Aside0.mk ((by rw [hw]; exact below_set (HB.out) GB25.out : Below w.heap.size w w27)); clear HO_3; clear BK313; clear HB; have HO_3 := n0_; have BK313 := n1_; have HB := n2_; clear n0_ n1_ n2_; clear hg hw hp_))
                    (try simp only [← hl3_2])
                    go_roundg k2
                    case measure => have := HJ1.out; have := HK2.out; omega
                    case rel => exact ⟨(y316), (wrap64 (x6_2 + 1)), (by first | rfl | (simp; done) | (simp [*]; done)), H', ⟨by have := HJ1.out; have := HK2.out; omega⟩, ⟨by (try simp only [hl3_2]); (with_reducible repeat (first | apply Kd.R_alloc | apply Kd.R_drewN | apply Kd.R_drew)); exact HO_3.out⟩, ⟨by (try simp only [hl3_2]); (with_reducible repeat (first | refine blk_drewN ?_ _ | refine blk_drew ?_ | refine blk_alloc ?_ _)); exact BK313.out⟩, ⟨by repeat (first | (with_reducible first | exact HB.out | apply below_alloc | apply pw_below_drewN | apply below_drew1 | refine below_set ?_ GE313.out) | exact HB.out)⟩⟩
                  · rw [if_neg c24] at H
                    exact absurd H (by simp)
                · rw [if_neg c23] at H
                  have c23b0 : decide (x6_2 < (x3_2.length : Int)) = false := decide_eq_false c23
                  clear c23
                  replace H := Option.bind_eq_some_iff.mp H
                  obtain ⟨⟨t317, t318, t319, t320, t321, t322, t323, t324⟩, A280, H⟩ := H
                  replace H : (if (t305 == t317 && (t306 == t318 && (t307 == t319 && (t308 == t320 && (t309 == t321 && (t310 == t322 && (t311 == t323))))))) = true then (some (t312 == t324)) else (some false)) = some r := H
                  have A28 := Aside0.mk A280
                  clear A280
                  by_cases c29 : (t305 == t317 && (t306 == t318 && (t307 == t319 && (t308 == t320 && (t309 == t321 && (t310 == t322 && (t311 == t323))))))) = true
                  · rw [if_pos c29] at H
                    have c29b0 : (t305 == t317 && (t306 == t318 && (t307 == t319 && (t308 == t320 && (t309 == t321 && (t310 == t322 && (t311 == t323))))))) = true := c29
                    (try (have c29b1 : decide (t305 = t317 && (t306 == t318 && (t307 == t319 && (t308 == t320 && (t309 == t321 && (t310 == t322 && (t311 == t323))))))) = true := by simpa using c29))
                    (try (have c29b2 : (t305 == t317 && (t306 == t318 && (t307 == t319 && (t308 == t320 && (t309 == t321 && (t310 == t322 && (t311 == t323))))))) = true := by simpa using c29))
                    clear c29
                    obtain rfl := Option.some.inj H
                    go_wp2_with (first | ((with_reducible refine gate_callee (f := 15) rfl ?_); refine goesL_ (some 42) rfl rfl Tryd.func15 (by kernel_rfl) rfl #[.slice A0 l0.length c0] rfl (by (try simp only [List.map_toArray, List.map_cons, List.map_nil]); first | done | rfl | (simp only [List.length_drop, List.length_take]; rfl)) ?_; (with_reducible refine (chamberlainref03_Get.calls k2 _ _ l0 t317 t318 t319 t320 t321 t322 t323 t324 _ ?side1 ?side2 A28.out).mono ?_); (case side1 => repeat (first | exact (Kd.C_below HR0.out HB.out) | (with_reducible refine Kd.C_alloc ?_ _) | (with_reducible refine Kd.C_drewN ?_ _) | (with_reducible refine Kd.C_drew ?_))); (case side2 => exact HC0.out); rintro e w30 ⟨rfl, hb⟩; refine ⟨_, rfl, ?_⟩; have n0_ := Aside0.mk (rb_ HO_3.out hb); have n1_ := Aside0.mk (bb_ BK313.out hb); have n2_ := Aside0.mk (bs_ hb); clear HO_3; clear BK313; clear HB; have HO_3 := n0_; have BK313 := n1_; have HB := n2_; clear n0_ n1_ n2_; (try clear hb); (try clear hb2); (try clear hk); (try clear hi)) | ((with_reducible refine gate_dst (N := 7) rfl ?_); (try (refine gate_guard (by rfl) ?_; dsimp only)); refine box_event ?hg (N := 7) ?hd (cs := #[.int .u32 0, .int .u32 0, .int .u32 0, .int .u32 0, .int .u32 0, .int .u32 0, .int .u32 0]) (t := 24) ?hr ?_; (case hd => rfl); (case hg => rfl); (case hr => first | (go_simp; done) | (go_simp; rfl)); intro gb325 hg w31 hbox hb; have n0_ := Aside0.mk (rb_ HO_3.out hb); have n1_ := Aside0.mk (bb_ BK313.out hb); have n2_ := Aside0.mk (bs_ hb); have n3_ := Aside0.mk (hbox); have n4_ := Aside0.mk ((ge_ hg : w.heap.size ≤ gb325)); have n5_ := Aside0.mk ((ge_ hg : w.heap.size ≤ gb325)); have n6_ := Aside0.mk ((by rw [hg]; exact Nat.ne_of_lt (blk_lt (g := gb313) (o := .cells #[.int .u32 t305, .int .u32 t306, .int .u32 t307, .int .u32 t308, .int .u32 t309, .int .u32 t310, .int .u32 t311] 24 (0, 0)) (by (with_reducible repeat (first | refine blk_drewN ?_ _ | refine blk_drew ?_ | refine blk_alloc ?_ _)); exact BK313.out)) : gb313 ≠ gb325)); have n7_ := Aside0.mk ((by rw [hg]; exact Nat.ne_of_gt (blk_lt (g := gb313) (o := .cells #[.int .u32 t305, .int .u32 t306, .int .u32 t307, .int .u32 t308, .int .u32 t309, .int .u32 t310, .int .u32 t311] 24 (0, 0)) (by (with_reducible repeat (first | refine blk_drewN ?_ _ | refine blk_drew ?_ | refine blk_alloc ?_ _)); exact BK313.out)) : gb325 ≠ gb313)); clear HO_3; clear BK313; clear HB; have HO_3 := n0_; have BK313 := n1_; have HB := n2_; have BK325 := n3_; have GW325 := n4_; have GE325 := n5_; have NB313_325 := n6_; have NB325_313 := n7_; clear n0_ n1_ n2_ n3_ n4_ n5_ n6_ n7_; clear hb hbox hg; have hnb32 := NB325_313.out; have hnc32 := NB313_325.out; have ⟨hcz33_0, hcz33_1, hcz33_2, hcz33_3, hcz33_4, hcz33_5, hcz33_6⟩ := cz7_ BK325.out; have ⟨hfz33_0, hfz33_1, hfz33_2, hfz33_3, hfz33_4, hfz33_5, hfz33_6⟩ := fz7_ BK325.out; have ⟨hcz34_0, hcz34_1, hcz34_2, hcz34_3, hcz34_4, hcz34_5, hcz34_6⟩ := cz7_ BK313.out; have ⟨hfz34_0, hfz34_1, hfz34_2, hfz34_3, hfz34_4, hfz34_5, hfz34_6⟩ := fz7_ BK313.out))
                    go_ret
                    exact ⟨by first | rfl | (simp [errW_none, errW_some] <;> rfl) | (simp [*, errW_none, errW_some] <;> rfl), by repeat (first | (with_reducible first | exact HB.out | apply below_alloc | apply pw_below_drewN | apply below_drew1 | refine below_set ?_ GE313.out | refine below_set ?_ GE325.out) | exact HB.out)⟩
                  · rw [if_neg c29] at H
                    have c29b0 : (t305 == t317 && (t306 == t318 && (t307 == t319 && (t308 == t320 && (t309 == t321 && (t310 == t322 && (t311 == t323))))))) = false := by simpa using c29
                    (try (have c29b1 : decide (t305 = t317 && (t306 == t318 && (t307 == t319 && (t308 == t320 && (t309 == t321 && (t310 == t322 && (t311 == t323))))))) = false := by simpa using c29))
                    (try (have c29b2 : (t305 == t317 && (t306 == t318 && (t307 == t319 && (t308 == t320 && (t309 == t321 && (t310 == t322 && (t311 == t323))))))) = false := by simpa using c29))
                    (try (have c29b3 : ¬ (t305 = t317 && (t306 == t318 && (t307 == t319 && (t308 == t320 && (t309 == t321 && (t310 == t322 && (t311 == t323))))))) := by simpa using c29))
                    clear c29
                    exact absurd (hT.out.symm.trans (Option.some.inj H).symm) (by decide)
          · replace c14 := Bool.eq_false_iff.mpr c14
            subst c14
            have H1 : (some false) = some r := by rw [if_neg (show ¬ (false = true) by decide)] at H; exact H
            clear H
            have H := H1
            clear H1
            exact absurd (hT.out.symm.trans (Option.some.inj H).symm) (by decide)
        · rw [if_neg c10] at H
          exact absurd H (by simp)

/-- THE ONE PURE STATEMENT of chamberlainlaw03_MsgKeeps: yours. -/
def chamberlainlaw03_MsgKeeps.Pure : Prop := ∀ (l0 : List Int), l0.length ≤ maxLen → l0.length * 4 ≤ 140737488351232 → (∀ x ∈ l0, (Lit.int .u32 x).wf = true) → ∃ k, chamberlainlaw03_MsgKeeps.f k l0 = some true
theorem chamberlainlaw03_MsgKeeps.walk (P : chamberlainlaw03_MsgKeeps.Pure) (a0 : Option Addr) (len0 cap0 : Nat) (z0 : List Int) (w : World) (hG : GH w) (w0 : (a0 = none ∧ len0 = 0 ∧ cap0 = 0 ∧ z0 = []) ∨ ∃ x, a0 = some x ∧ len0 ≤ cap0 ∧ cap0 ≤ maxLen ∧ z0.length = cap0 ∧ (∀ i, i < z0.length → w.cell? (x.add i) = some (.int .u32 (z0.getD i 0))) ∧ ∀ n ∈ z0, (Lit.int .u32 n).wf = true) (y0 : len0 * 4 ≤ 140737488351232) :
    Calls Tryd.prog 7 #[.slice a0 len0 cap0] w fun e w' => e = .returned (.bool true) ∧ Below w.heap.size w w' := by
  obtain ⟨l0, rfl, hr0, hm0, hw0, hc0⟩ := ReadsInt.ofRowC w0
  obtain ⟨k, h⟩ := P l0 hm0 y0 hw0
  refine (chamberlainlaw03_MsgKeeps.calls (hG := hG) k _ _ l0 true w (Kd.C_of_reads (d := (0 : Int)) (h1 := fun _ => rfl) hr0) hc0 h rfl).mono ?_
  rintro e w' ⟨rfl, hd⟩
  exact ⟨rfl, hd⟩

end Go.Proofs.YtkmgfleoondblaaDoor.PMsgKeeps
