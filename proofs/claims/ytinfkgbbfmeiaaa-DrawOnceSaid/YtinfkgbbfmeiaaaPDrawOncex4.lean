-- Written for this claim by wip/tools/myprint.py (print.py's forms; proofs of the faked functions by hand).
import Derived.Test.YtinfkgbbfmeiaaaPDrawOncex0
import Derived.Test.YtinfkgbbfmeiaaaPDrawOncex1
import Derived.Test.YtinfkgbbfmeiaaaPDrawOncex2
import Derived.Test.YtinfkgbbfmeiaaaPDrawOncex3
namespace Go.Proofs.Ytinfkgbbfmeiaaa.PDrawOnce
open Go.RowKit Go.Proofs.YtinfkgbbfmeiaaaW.PrintWords Go.Proofs.YtinfkgbbfmeiaaaW.PrintLast Go.Proofs.YtinfkgbbfmeiaaaW.PrintMore
attribute [local go_sem] max2_int min2_int max_two min_two max_three min_three max_four min_four   -- for this text's walks alone
set_option linter.unusedVariables false
set_option linter.unusedSimpArgs false

/-! ### chamberlainlaw04_DrawOnce: function 5 -/
mutual
def chamberlainlaw04_DrawOnce.j0 : Nat → List Int → Int → Int → Bool → Option (Bool)
  | 0, _, _, _, _ => none
  | k + 1, x0, x1, x2, x23 => if x23 = true then ((chamberlainlaw04_awake.f k).bind fun t171 => (some t171)) else (chamberlainlaw04_DrawOnce.l0 k x0 x1 x2 0 x0 0)
def chamberlainlaw04_DrawOnce.l0 : Nat → List Int → Int → Int → Int → List Int → Int → Option (Bool)
  | 0, _, _, _, _, _, _ => none
  | k + 1, x0, x1, x2, x8, x173000, x173001 => if x8 < (wrap64 (x1)) then ((draw_Take.f x173000 x173001).bind fun bt173 => (chamberlainlaw04_DrawOnce.l0 k x0 x1 x2 (wrap64 (x8 + 1)) bt173.1 bt173.2.1)) else ((draw_Drawn.f k x173000 x173001).bind fun t178 => ((draw_Peek.f k x173000 x173001 (wrap64 (x2))).bind fun t181 => (if (t181.length : Int) = (wrap64 (x2)) then (chamberlainlaw04_DrawOnce.j2 k x0 x2 t178 t181 ((t178.length : Int) != (wrap64 (x1))) x173000 x173001) else (chamberlainlaw04_DrawOnce.j2 k x0 x2 t178 t181 true x173000 x173001))))
def chamberlainlaw04_DrawOnce.j2 : Nat → List Int → Int → List Int → List Int → Bool → List Int → Int → Option (Bool)
  | 0, _, _, _, _, _, _, _ => none
  | k + 1, x0, x2, x9, x10, x55, x173000, x173001 => if x55 = true then (some false) else (chamberlainlaw04_DrawOnce.l1 k x0 x2 x9 x10 0 x173000 x173001)
def chamberlainlaw04_DrawOnce.l1 : Nat → List Int → Int → List Int → List Int → Int → List Int → Int → Option (Bool)
  | 0, _, _, _, _, _, _, _ => none
  | k + 1, x0, x2, x9, x10, x11, x173000, x173001 => if x11 < (wrap64 (x2)) then ((draw_Take.f x173000 x173001).bind fun bt184 => (if 0 ≤ x11 then (if x11 < (x10.length : Int) then (if bt184.2.2 = (rd x10 x11) then (if bt184.2.2 < 2147483648 then (some false) else (if bt184.2.1 = (wrap64 (x173001 + 1)) then (chamberlainlaw04_DrawOnce.l1 k x0 x2 x9 x10 (wrap64 (x11 + 1)) bt184.1 bt184.2.1) else (some false))) else (some false)) else (none)) else (none))) else ((draw_Drawn.f k x173000 x173001).bind fun t191 => (chamberlainlaw04_DrawOnce.l2 k x0 x9 x10 t191 true 0))
def chamberlainlaw04_DrawOnce.l2 : Nat → List Int → List Int → List Int → List Int → Bool → Int → Option (Bool)
  | 0, _, _, _, _, _, _ => none
  | k + 1, x0, x9, x10, x14, x15, x16 => if x16 < (x0.length : Int) then (if x15 = true then (if 0 ≤ x16 then (chamberlainlaw04_DrawOnce.l2 k x0 x9 x10 x14 (decide ((rd x0 x16) < 1073741824)) (wrap64 (x16 + 1))) else (none)) else (chamberlainlaw04_DrawOnce.l2 k x0 x9 x10 x14 false (wrap64 (x16 + 1)))) else (if x15 = true then ((chamberlainref04_Unlike.f k x0).bind fun t195 => (if t195 = true then ((draw_Unlike.f k x14).bind fun t196 => (if t196 = true then ((some (([] : List Int) : List Int)).bind fun y197 => (if y197.length + x9.length < 35184372088832 then ((some (y197 ++ x9 : List Int)).bind fun y200 => (if y200.length + x10.length < 35184372088832 then ((chamberlainref01_Same.f k x14 (y200 ++ x10)).bind fun t206 => (some t206)) else (none))) else (none))) else (some false))) else ((some (([] : List Int) : List Int)).bind fun y207 => (if y207.length + x9.length < 35184372088832 then ((some (y207 ++ x9 : List Int)).bind fun y210 => (if y210.length + x10.length < 35184372088832 then ((chamberlainref01_Same.f k x14 (y210 ++ x10)).bind fun t216 => (some t216)) else (none))) else (none))))) else ((some (([] : List Int) : List Int)).bind fun y217 => (if y217.length + x9.length < 35184372088832 then ((some (y217 ++ x9 : List Int)).bind fun y220 => (if y220.length + x10.length < 35184372088832 then ((chamberlainref01_Same.f k x14 (y220 ++ x10)).bind fun t226 => (some t226)) else (none))) else (none))))
end
def chamberlainlaw04_DrawOnce.f (k : Nat) (l0 : List Int) (a1 : Int) (a2 : Int) : Option (Bool) := (chamberlainlaw04_awake.f k).bind fun t170 => (if t170 = true then (chamberlainlaw04_DrawOnce.j0 k l0 a1 a2 (decide ((l0.length : Int) > 100))) else (chamberlainlaw04_DrawOnce.j0 k l0 a1 a2 true))
theorem chamberlainlaw04_DrawOnce.mono_l : ∀ k, (∀ y0 y1 y2 y3, LeO (chamberlainlaw04_DrawOnce.j0 k y0 y1 y2 y3) (chamberlainlaw04_DrawOnce.j0 (k + 1) y0 y1 y2 y3)) ∧ (∀ y0 y1 y2 y3 y4 y5, LeO (chamberlainlaw04_DrawOnce.l0 k y0 y1 y2 y3 y4 y5) (chamberlainlaw04_DrawOnce.l0 (k + 1) y0 y1 y2 y3 y4 y5)) ∧ (∀ y0 y1 y2 y3 y4 y5 y6, LeO (chamberlainlaw04_DrawOnce.j2 k y0 y1 y2 y3 y4 y5 y6) (chamberlainlaw04_DrawOnce.j2 (k + 1) y0 y1 y2 y3 y4 y5 y6)) ∧ (∀ y0 y1 y2 y3 y4 y5 y6, LeO (chamberlainlaw04_DrawOnce.l1 k y0 y1 y2 y3 y4 y5 y6) (chamberlainlaw04_DrawOnce.l1 (k + 1) y0 y1 y2 y3 y4 y5 y6)) ∧ (∀ y0 y1 y2 y3 y4 y5, LeO (chamberlainlaw04_DrawOnce.l2 k y0 y1 y2 y3 y4 y5) (chamberlainlaw04_DrawOnce.l2 (k + 1) y0 y1 y2 y3 y4 y5))
  | 0 => ⟨fun _ _ _ _ r h => by simp [chamberlainlaw04_DrawOnce.j0] at h, fun _ _ _ _ _ _ r h => by simp [chamberlainlaw04_DrawOnce.l0] at h, fun _ _ _ _ _ _ _ r h => by simp [chamberlainlaw04_DrawOnce.j2] at h, fun _ _ _ _ _ _ _ r h => by simp [chamberlainlaw04_DrawOnce.l1] at h, fun _ _ _ _ _ _ r h => by simp [chamberlainlaw04_DrawOnce.l2] at h⟩
  | k + 1 => by
    obtain ⟨ih0, ih1, ih2, ih3, ih4⟩ := chamberlainlaw04_DrawOnce.mono_l k
    refine ⟨?_, ?_, ?_, ?_, ?_⟩
    · intro y0 y1 y2 y3
      unfold chamberlainlaw04_DrawOnce.j0
      repeat' first
      | (with_reducible exact ih0 _ _ _ _)
      | (with_reducible exact ih1 _ _ _ _ _ _)
      | (with_reducible exact ih2 _ _ _ _ _ _ _)
      | (with_reducible exact ih3 _ _ _ _ _ _ _)
      | (with_reducible exact ih4 _ _ _ _ _ _)
      | (with_reducible exact chamberlainlaw04_awake.mono _)
      | (with_reducible exact chamberlainref01_Same.mono _ _ _)
      | (with_reducible exact chamberlainref04_Unlike.mono _ _)
      | (with_reducible exact draw_Drawn.mono _ _ _)
      | (with_reducible exact draw_Peek.mono _ _ _ _)
      | (with_reducible exact draw_Unlike.mono _ _)
      | (with_reducible exact LeO.refl _)
      | (with_reducible exact LeO.none _)
      | (with_reducible refine LeO.ite ?_ ?_)
      | (with_reducible refine LeO.bind ?_ (fun _ => ?_))
      | exact ih0 _ _ _ _
      | exact ih1 _ _ _ _ _ _
      | exact ih2 _ _ _ _ _ _ _
      | exact ih3 _ _ _ _ _ _ _
      | exact ih4 _ _ _ _ _ _
      | exact chamberlainlaw04_awake.mono _
      | exact chamberlainref01_Same.mono _ _ _
      | exact chamberlainref04_Unlike.mono _ _
      | exact draw_Drawn.mono _ _ _
      | exact draw_Peek.mono _ _ _ _
      | exact draw_Unlike.mono _ _
      | exact LeO.none _
      | refine LeO.ite ?_ ?_
      | refine LeO.bind ?_ (fun _ => ?_)
    · intro y0 y1 y2 y3 y4 y5
      unfold chamberlainlaw04_DrawOnce.l0
      repeat' first
      | (with_reducible exact ih0 _ _ _ _)
      | (with_reducible exact ih1 _ _ _ _ _ _)
      | (with_reducible exact ih2 _ _ _ _ _ _ _)
      | (with_reducible exact ih3 _ _ _ _ _ _ _)
      | (with_reducible exact ih4 _ _ _ _ _ _)
      | (with_reducible exact chamberlainlaw04_awake.mono _)
      | (with_reducible exact chamberlainref01_Same.mono _ _ _)
      | (with_reducible exact chamberlainref04_Unlike.mono _ _)
      | (with_reducible exact draw_Drawn.mono _ _ _)
      | (with_reducible exact draw_Peek.mono _ _ _ _)
      | (with_reducible exact draw_Unlike.mono _ _)
      | (with_reducible exact LeO.refl _)
      | (with_reducible exact LeO.none _)
      | (with_reducible refine LeO.ite ?_ ?_)
      | (with_reducible refine LeO.bind ?_ (fun _ => ?_))
      | exact ih0 _ _ _ _
      | exact ih1 _ _ _ _ _ _
      | exact ih2 _ _ _ _ _ _ _
      | exact ih3 _ _ _ _ _ _ _
      | exact ih4 _ _ _ _ _ _
      | exact chamberlainlaw04_awake.mono _
      | exact chamberlainref01_Same.mono _ _ _
      | exact chamberlainref04_Unlike.mono _ _
      | exact draw_Drawn.mono _ _ _
      | exact draw_Peek.mono _ _ _ _
      | exact draw_Unlike.mono _ _
      | exact LeO.none _
      | refine LeO.ite ?_ ?_
      | refine LeO.bind ?_ (fun _ => ?_)
    · intro y0 y1 y2 y3 y4 y5 y6
      unfold chamberlainlaw04_DrawOnce.j2
      repeat' first
      | (with_reducible exact ih0 _ _ _ _)
      | (with_reducible exact ih1 _ _ _ _ _ _)
      | (with_reducible exact ih2 _ _ _ _ _ _ _)
      | (with_reducible exact ih3 _ _ _ _ _ _ _)
      | (with_reducible exact ih4 _ _ _ _ _ _)
      | (with_reducible exact chamberlainlaw04_awake.mono _)
      | (with_reducible exact chamberlainref01_Same.mono _ _ _)
      | (with_reducible exact chamberlainref04_Unlike.mono _ _)
      | (with_reducible exact draw_Drawn.mono _ _ _)
      | (with_reducible exact draw_Peek.mono _ _ _ _)
      | (with_reducible exact draw_Unlike.mono _ _)
      | (with_reducible exact LeO.refl _)
      | (with_reducible exact LeO.none _)
      | (with_reducible refine LeO.ite ?_ ?_)
      | (with_reducible refine LeO.bind ?_ (fun _ => ?_))
      | exact ih0 _ _ _ _
      | exact ih1 _ _ _ _ _ _
      | exact ih2 _ _ _ _ _ _ _
      | exact ih3 _ _ _ _ _ _ _
      | exact ih4 _ _ _ _ _ _
      | exact chamberlainlaw04_awake.mono _
      | exact chamberlainref01_Same.mono _ _ _
      | exact chamberlainref04_Unlike.mono _ _
      | exact draw_Drawn.mono _ _ _
      | exact draw_Peek.mono _ _ _ _
      | exact draw_Unlike.mono _ _
      | exact LeO.none _
      | refine LeO.ite ?_ ?_
      | refine LeO.bind ?_ (fun _ => ?_)
    · intro y0 y1 y2 y3 y4 y5 y6
      unfold chamberlainlaw04_DrawOnce.l1
      repeat' first
      | (with_reducible exact ih0 _ _ _ _)
      | (with_reducible exact ih1 _ _ _ _ _ _)
      | (with_reducible exact ih2 _ _ _ _ _ _ _)
      | (with_reducible exact ih3 _ _ _ _ _ _ _)
      | (with_reducible exact ih4 _ _ _ _ _ _)
      | (with_reducible exact chamberlainlaw04_awake.mono _)
      | (with_reducible exact chamberlainref01_Same.mono _ _ _)
      | (with_reducible exact chamberlainref04_Unlike.mono _ _)
      | (with_reducible exact draw_Drawn.mono _ _ _)
      | (with_reducible exact draw_Peek.mono _ _ _ _)
      | (with_reducible exact draw_Unlike.mono _ _)
      | (with_reducible exact LeO.refl _)
      | (with_reducible exact LeO.none _)
      | (with_reducible refine LeO.ite ?_ ?_)
      | (with_reducible refine LeO.bind ?_ (fun _ => ?_))
      | exact ih0 _ _ _ _
      | exact ih1 _ _ _ _ _ _
      | exact ih2 _ _ _ _ _ _ _
      | exact ih3 _ _ _ _ _ _ _
      | exact ih4 _ _ _ _ _ _
      | exact chamberlainlaw04_awake.mono _
      | exact chamberlainref01_Same.mono _ _ _
      | exact chamberlainref04_Unlike.mono _ _
      | exact draw_Drawn.mono _ _ _
      | exact draw_Peek.mono _ _ _ _
      | exact draw_Unlike.mono _ _
      | exact LeO.none _
      | refine LeO.ite ?_ ?_
      | refine LeO.bind ?_ (fun _ => ?_)
    · intro y0 y1 y2 y3 y4 y5
      unfold chamberlainlaw04_DrawOnce.l2
      repeat' first
      | (with_reducible exact ih0 _ _ _ _)
      | (with_reducible exact ih1 _ _ _ _ _ _)
      | (with_reducible exact ih2 _ _ _ _ _ _ _)
      | (with_reducible exact ih3 _ _ _ _ _ _ _)
      | (with_reducible exact ih4 _ _ _ _ _ _)
      | (with_reducible exact chamberlainlaw04_awake.mono _)
      | (with_reducible exact chamberlainref01_Same.mono _ _ _)
      | (with_reducible exact chamberlainref04_Unlike.mono _ _)
      | (with_reducible exact draw_Drawn.mono _ _ _)
      | (with_reducible exact draw_Peek.mono _ _ _ _)
      | (with_reducible exact draw_Unlike.mono _ _)
      | (with_reducible exact LeO.refl _)
      | (with_reducible exact LeO.none _)
      | (with_reducible refine LeO.ite ?_ ?_)
      | (with_reducible refine LeO.bind ?_ (fun _ => ?_))
      | exact ih0 _ _ _ _
      | exact ih1 _ _ _ _ _ _
      | exact ih2 _ _ _ _ _ _ _
      | exact ih3 _ _ _ _ _ _ _
      | exact ih4 _ _ _ _ _ _
      | exact chamberlainlaw04_awake.mono _
      | exact chamberlainref01_Same.mono _ _ _
      | exact chamberlainref04_Unlike.mono _ _
      | exact draw_Drawn.mono _ _ _
      | exact draw_Peek.mono _ _ _ _
      | exact draw_Unlike.mono _ _
      | exact LeO.none _
      | refine LeO.ite ?_ ?_
      | refine LeO.bind ?_ (fun _ => ?_)
theorem chamberlainlaw04_DrawOnce.mono : ∀ a0 a1 a2 k, LeO (chamberlainlaw04_DrawOnce.f k a0 a1 a2) (chamberlainlaw04_DrawOnce.f (k + 1) a0 a1 a2) := by
  intro a0 a1 a2 k
  obtain ⟨ih0, ih1, ih2, ih3, ih4⟩ := chamberlainlaw04_DrawOnce.mono_l k
  unfold chamberlainlaw04_DrawOnce.f
  repeat' first
      | (with_reducible exact ih0 _ _ _ _)
      | (with_reducible exact ih1 _ _ _ _ _ _)
      | (with_reducible exact ih2 _ _ _ _ _ _ _)
      | (with_reducible exact ih3 _ _ _ _ _ _ _)
      | (with_reducible exact ih4 _ _ _ _ _ _)
      | (with_reducible exact chamberlainlaw04_awake.mono _)
      | (with_reducible exact chamberlainref01_Same.mono _ _ _)
      | (with_reducible exact chamberlainref04_Unlike.mono _ _)
      | (with_reducible exact draw_Drawn.mono _ _ _)
      | (with_reducible exact draw_Peek.mono _ _ _ _)
      | (with_reducible exact draw_Unlike.mono _ _)
      | (with_reducible exact LeO.refl _)
      | (with_reducible exact LeO.none _)
      | (with_reducible refine LeO.ite ?_ ?_)
      | (with_reducible refine LeO.bind ?_ (fun _ => ?_))
      | exact ih0 _ _ _ _
      | exact ih1 _ _ _ _ _ _
      | exact ih2 _ _ _ _ _ _ _
      | exact ih3 _ _ _ _ _ _ _
      | exact ih4 _ _ _ _ _ _
      | exact chamberlainlaw04_awake.mono _
      | exact chamberlainref01_Same.mono _ _ _
      | exact chamberlainref04_Unlike.mono _ _
      | exact draw_Drawn.mono _ _ _
      | exact draw_Peek.mono _ _ _ _
      | exact draw_Unlike.mono _ _
      | exact LeO.none _
      | refine LeO.ite ?_ ?_
      | refine LeO.bind ?_ (fun _ => ?_)
set_option maxHeartbeats 8000000 in
set_option maxRecDepth 100000 in
theorem chamberlainlaw04_DrawOnce.calls (k : Nat) (P0_ : Nat → Prop) (A0 : Option Addr) (c0 : Nat) (l0 : List Int) (a1 : Int) (a2 : Int) (r : Bool) (w : World) (hs0 : Kd.V (Kd.int .u32) 27 w w.heap.size (fun k_ => P0_ k_) (.slice A0 l0.length c0) l0) (h : chamberlainlaw04_DrawOnce.f k l0 a1 a2 = some r) (hT0 : r = true) :
    Calls Try.prog 5 #[.slice A0 l0.length c0, .int .u8 a1, .int .u8 a2] w fun e w' => e = .returned (.bool r) ∧ Below w.heap.size w w' := by
  have hT := Aside0.mk hT0
  clear hT0
  have hu24 := Try.underlying24
  have HO0 := Aside0.mk (show Kd.V (Kd.int .u32) 27 w w.heap.size (fun k_ => (P0_ k_ ∨ w.heap.size ≤ k_)) (.slice A0 l0.length c0) l0 from Kd.V_mono hs0 (fun k_ hk => .inl hk))
  have HB := Aside0.mk (Below.refl w.heap.size w)
  have H : ((chamberlainlaw04_awake.f k).bind fun t170 => (if t170 = true then (chamberlainlaw04_DrawOnce.j0 k l0 a1 a2 (decide ((l0.length : Int) > 100))) else (chamberlainlaw04_DrawOnce.j0 k l0 a1 a2 true))) = some r := h
  clear h
  have HC4 := Aside0.mk H
  clear H
  go_enter Try.func5, Try.ntmps5
  go_upto_region 1 with (fail)
  go_cut [23] (fun v23 wc => ∃ (kq : Nat) (x23_3 : Bool), v23 = .bool x23_3 ∧ Aside0 (chamberlainlaw04_DrawOnce.j0 kq l0 a1 a2 x23_3 = some r) ∧ Aside0 (kq ≤ k) ∧ Aside0 (Kd.V (Kd.int .u32) 27 wc w.heap.size (fun k_ => (P0_ k_ ∨ w.heap.size ≤ k_)) (.slice A0 l0.length c0) l0) ∧ Aside0 (Below w.heap.size w wc))
  case first =>
    have H := HC4.out
    clear HC4
    replace H := Option.bind_eq_some_iff.mp H
    obtain ⟨t170, A50, H⟩ := H
    replace H : (if t170 = true then (chamberlainlaw04_DrawOnce.j0 k l0 a1 a2 (decide ((l0.length : Int) > 100))) else (chamberlainlaw04_DrawOnce.j0 k l0 a1 a2 true)) = some r := H
    have A5 := Aside0.mk A50
    clear A50
    by_cases c6 : t170 = true
    · subst c6
      have H1 : (chamberlainlaw04_DrawOnce.j0 k l0 a1 a2 (decide ((l0.length : Int) > 100))) = some r := by rw [if_pos rfl] at H; exact H
      clear H
      have H := H1
      clear H1
      have H' := Aside0.mk H
      clear H
      go_wp2_with (first | ((with_reducible refine gate_callee (f := 7) rfl ?_); refine goesL_ (some 17) rfl rfl Try.func7 (by kernel_rfl) rfl #[] rfl (by (try simp only [List.map_toArray, List.map_cons, List.map_nil]); first | done | rfl | (simp only [List.length_drop, List.length_take]; rfl)) ?_; (with_reducible refine (chamberlainlaw04_awake.calls k  true _ A5.out).mono ?_); rintro e w7 ⟨rfl, hb⟩; refine ⟨_, rfl, ?_⟩; have n0_ := Aside0.mk (Kd.V_below (by (with_reducible repeat (first | apply Kd.V_alloc | apply Kd.V_drewN | apply Kd.V_drew)); exact HO0.out) hb); have n1_ := Aside0.mk (below_step (by repeat (first | (with_reducible first | exact HB.out | apply below_alloc | apply pw_below_drewN | apply below_drew1) | exact HB.out)) hb); clear HO0; clear HB; have HO0 := n0_; have HB := n1_; clear n0_ n1_; (try clear hb); (try clear hb2); (try clear hk); (try clear hi)))
      go_meet
      case rel => exact ⟨_, (decide ((l0.length : Int) > 100)), (by first | rfl | (simp; done) | (simp [*]; done)), H', ⟨by first | omega | exact Nat.le_refl _⟩, ⟨by (with_reducible repeat (first | apply Kd.V_alloc | apply Kd.V_drewN | apply Kd.V_drew)); exact HO0.out⟩, ⟨by repeat (first | (with_reducible first | exact HB.out | apply below_alloc | apply pw_below_drewN | apply below_drew1) | exact HB.out)⟩⟩
    · replace c6 := Bool.eq_false_iff.mpr c6
      subst c6
      have H1 : (chamberlainlaw04_DrawOnce.j0 k l0 a1 a2 true) = some r := by rw [if_neg (show ¬ (false = true) by decide)] at H; exact H
      clear H
      have H := H1
      clear H1
      have H' := Aside0.mk H
      clear H
      go_wp2_with (first | ((with_reducible refine gate_callee (f := 7) rfl ?_); refine goesL_ (some 17) rfl rfl Try.func7 (by kernel_rfl) rfl #[] rfl (by (try simp only [List.map_toArray, List.map_cons, List.map_nil]); first | done | rfl | (simp only [List.length_drop, List.length_take]; rfl)) ?_; (with_reducible refine (chamberlainlaw04_awake.calls k  false _ A5.out).mono ?_); rintro e w8 ⟨rfl, hb⟩; refine ⟨_, rfl, ?_⟩; have n0_ := Aside0.mk (Kd.V_below (by (with_reducible repeat (first | apply Kd.V_alloc | apply Kd.V_drewN | apply Kd.V_drew)); exact HO0.out) hb); have n1_ := Aside0.mk (below_step (by repeat (first | (with_reducible first | exact HB.out | apply below_alloc | apply pw_below_drewN | apply below_drew1) | exact HB.out)) hb); clear HO0; clear HB; have HO0 := n0_; have HB := n1_; clear n0_ n1_; (try clear hb); (try clear hb2); (try clear hk); (try clear hi)))
      go_meet
      case rel => exact ⟨_, (true), (by first | rfl | (simp; done) | (simp [*]; done)), H', ⟨by first | omega | exact Nat.le_refl _⟩, ⟨by (with_reducible repeat (first | apply Kd.V_alloc | apply Kd.V_drewN | apply Kd.V_drew)); exact HO0.out⟩, ⟨by repeat (first | (with_reducible first | exact HB.out | apply below_alloc | apply pw_below_drewN | apply below_drew1) | exact HB.out)⟩⟩
  case rest =>
    clear HC4
    try clear p2
    try clear c5
    try clear c6
    try clear c7
    obtain ⟨kq, x23_3, rfl, HA, HJ3, HO_0, HB⟩ := hcut
    cases kq with
    | zero => exact absurd HA.out (by simp [chamberlainlaw04_DrawOnce.j0])
    | succ kj3 =>
      have H := HA.out
      clear HA
      simp only [chamberlainlaw04_DrawOnce.j0] at H
      by_cases c9 : x23_3 = true
      · subst c9
        have H1 : ((chamberlainlaw04_awake.f kj3).bind fun t171 => (some t171)) = some r := by rw [if_pos rfl] at H; exact H
        clear H
        have H := H1
        clear H1
        replace H := Option.bind_eq_some_iff.mp H
        obtain ⟨t171, A100, H⟩ := H
        replace H : (some t171) = some r := H
        have A10 := Aside0.mk A100
        clear A100
        obtain rfl := Option.some.inj H
        go_wp2_with (first | ((with_reducible refine gate_callee (f := 7) rfl ?_); refine goesL_ (some 24) rfl rfl Try.func7 (by kernel_rfl) rfl #[] rfl (by (try simp only [List.map_toArray, List.map_cons, List.map_nil]); first | done | rfl | (simp only [List.length_drop, List.length_take]; rfl)) ?_; (with_reducible refine (chamberlainlaw04_awake.calls kj3  t171 _ A10.out).mono ?_); rintro e w11 ⟨rfl, hb⟩; refine ⟨_, rfl, ?_⟩; have n0_ := Aside0.mk (Kd.V_below (by (with_reducible repeat (first | apply Kd.V_alloc | apply Kd.V_drewN | apply Kd.V_drew)); exact HO_0.out) hb); have n1_ := Aside0.mk (below_step (by repeat (first | (with_reducible first | exact HB.out | apply below_alloc | apply pw_below_drewN | apply below_drew1) | exact HB.out)) hb); clear HO_0; clear HB; have HO_0 := n0_; have HB := n1_; clear n0_ n1_; (try clear hb); (try clear hb2); (try clear hk); (try clear hi)))
        go_ret
        exact ⟨by first | rfl | (simp [errW_none, errW_some] <;> rfl) | (simp [*, errW_none, errW_some] <;> rfl), by repeat (first | (with_reducible first | exact HB.out | apply below_alloc | apply pw_below_drewN | apply below_drew1) | exact HB.out)⟩
      · replace c9 := Bool.eq_false_iff.mpr c9
        subst c9
        have H1 : (chamberlainlaw04_DrawOnce.l0 kj3 l0 a1 a2 0 l0 0) = some r := by rw [if_neg (show ¬ (false = true) by decide)] at H; exact H
        clear H
        have H := H1
        clear H1
        have H' := Aside0.mk H
        clear H
        go_wp2_with (first | ((with_reducible refine gate_dst (N := 7) rfl ?_); (try (refine gate_guard (by rfl) ?_; dsimp only)); refine box_event ?hg (N := 7) ?hd (cs := #[.slice none 0 0, .int .i64 0]) (t := 24) ?hr ?_; (case hd => rfl); (case hg => rfl); (case hr => first | (go_simp; done) | (go_simp; rfl)); intro gb172 hg w12 hbox hb; have n0_ := Aside0.mk (Kd.V_below (Kd.V_elderB (by (with_reducible repeat (first | apply Kd.V_alloc | apply Kd.V_drewN | apply Kd.V_drew)); exact HO_0.out) gb172 (Nat.le_of_eq hg.symm)) hb); have n1_ := Aside0.mk (below_step (by repeat (first | (with_reducible first | exact HB.out | apply below_alloc | apply pw_below_drewN | apply below_drew1) | exact HB.out)) hb); have n2_ := Aside0.mk (hbox); have n3_ := Aside0.mk ((by rw [hg]; exact (below_size (by repeat (first | (with_reducible first | exact HB.out | apply below_alloc | apply pw_below_drewN | apply below_drew1) | exact HB.out))) : w.heap.size ≤ gb172)); have n4_ := Aside0.mk ((by rw [hg]; exact (below_size (by repeat (first | (with_reducible first | exact HB.out | apply below_alloc | apply pw_below_drewN | apply below_drew1) | exact HB.out))) : w.heap.size ≤ gb172)); clear HO_0; clear HB; have HO_0 := n0_; have HB := n1_; have BK172 := n2_; have GW172 := n3_; have GE172 := n4_; clear n0_ n1_ n2_ n3_ n4_; clear hb hbox hg; have hcz13_0 : w12.cell? ⟨gb172, 0, none⟩ = some (.slice none 0 0) := (blk_cell BK172.out 0).trans rfl; have hcz13_1 : w12.cell? ⟨gb172, 1, none⟩ = some (.int .i64 0) := (blk_cell BK172.out 1).trans rfl; have hfz13_0 := blk_frozen BK172.out 0; have hfz13_1 := blk_frozen BK172.out 1))
        go_loopg [8] kj3 (fun kq v8 w' => ∃ (x8_2 : Int) (x173000_2 : List Int) (x173001_2 : Int) (u173000 : Value), v8 = .int .i64 x8_2 ∧ Aside0 (chamberlainlaw04_DrawOnce.l0 kq l0 a1 a2 x8_2 x173000_2 x173001_2 = some r) ∧ Aside0 (kq ≤ kj3) ∧ Aside0 (Kd.V (Kd.int .u32) 27 w' w.heap.size (fun k_ => (P0_ k_ ∨ w.heap.size ≤ k_) ∧ k_ ≠ gb172) (.slice A0 l0.length c0) l0) ∧ Aside0 (Kd.V (Kd.int .u32) 27 w' w.heap.size (fun k_ => (P0_ k_ ∨ w.heap.size ≤ k_) ∧ k_ ≠ gb172) u173000 x173000_2) ∧ Aside0 (w'.heap[gb172]? = some (.cells #[u173000, .int .i64 x173001_2] 24 (0, 0))) ∧ Aside0 (Below w.heap.size w w'))
        case atStart => exact ⟨(0), (l0), (0), (.slice A0 l0.length c0), (by first | rfl | (simp; done) | (simp [*]; done)), H', ⟨Nat.le_refl _⟩, ⟨by (with_reducible repeat (first | apply Kd.V_alloc | apply Kd.V_drewN | apply Kd.V_drew)); exact Kd.V_mono (Kd.V_far (p := ⟨gb172, 1, none⟩) (Kd.V_far (p := ⟨gb172, 0, none⟩) (Kd.V_mono HO_0.out (fun k_ hk => (⟨hk, hk.2⟩ : _ ∧ k_ ≠ gb172))) (fun _ hk => hk.2) (.slice A0 l0.length c0)) (fun _ hk => hk.2) (.int .i64 0)) (fun _ hk => ⟨hk.1.1, hk.1.2⟩)⟩, ⟨by (with_reducible repeat (first | apply Kd.V_alloc | apply Kd.V_drewN | apply Kd.V_drew)); exact Kd.V_mono (Kd.V_far (p := ⟨gb172, 1, none⟩) (Kd.V_far (p := ⟨gb172, 0, none⟩) (Kd.V_mono HO_0.out (fun k_ hk => (⟨hk, hk.2⟩ : _ ∧ k_ ≠ gb172))) (fun _ hk => hk.2) (.slice A0 l0.length c0)) (fun _ hk => hk.2) (.int .i64 0)) (fun _ hk => ⟨hk.1.1, hk.1.2⟩)⟩, ⟨by (with_reducible repeat (first | refine blk_drewN ?_ _ | refine blk_drew ?_ | refine blk_alloc ?_ _)); refine blk_put (cs := #[.slice A0 l0.length c0, .int .i64 0]) ?_ 1 _ rfl; (with_reducible repeat (first | refine blk_drewN ?_ _ | refine blk_drew ?_ | refine blk_alloc ?_ _)); refine blk_put (cs := #[.slice none 0 0, .int .i64 0]) ?_ 0 _ rfl; (with_reducible repeat (first | refine blk_drewN ?_ _ | refine blk_drew ?_ | refine blk_alloc ?_ _)); exact BK172.out⟩, ⟨by repeat (first | (with_reducible first | exact HB.out | apply below_alloc | apply pw_below_drewN | apply below_drew1 | refine below_set ?_ GE172.out) | exact HB.out)⟩⟩
        case round =>
          clear H'
          try clear p2
          try clear c5
          try clear c6
          try clear c7
          try clear c9
          try clear hcz13_0
          try clear hcz13_1
          try clear hfz13_0
          try clear hfz13_1
          try clear p2
          obtain ⟨x8_2, x173000_2, x173001_2, u173000, rfl, HA, HK2, HO_0, HO_173000, BK172, HB⟩ := hrel
          cases gk with
          | zero => exact absurd HA.out (by simp [chamberlainlaw04_DrawOnce.l0])
          | succ k2 =>
            have H := HA.out
            clear HA
            simp only [chamberlainlaw04_DrawOnce.l0] at H
            by_cases c14 : x8_2 < (wrap64 (a1))
            · rw [if_pos c14] at H
              have c14b0 : decide (x8_2 < (wrap64 (a1))) = true := decide_eq_true c14
              clear c14
              replace H := Option.bind_eq_some_iff.mp H
              obtain ⟨⟨t173, t176, t177⟩, A150, H⟩ := H
              replace H : (chamberlainlaw04_DrawOnce.l0 k2 l0 a1 a2 (wrap64 (x8_2 + 1)) t173 t176) = some r := H
              have A15 := Aside0.mk A150
              clear A150
              have H' := Aside0.mk H
              clear H
              have hcz16_0 : wr.cell? ⟨gb172, 0, none⟩ = some (u173000) := (blk_cell BK172.out 0).trans rfl
              have hcz16_1 : wr.cell? ⟨gb172, 1, none⟩ = some (.int .i64 x173001_2) := (blk_cell BK172.out 1).trans rfl
              have hfz16_0 := blk_frozen BK172.out 0
              have hfz16_1 := blk_frozen BK172.out 1
              obtain ⟨Ao17, co17, eo17⟩ := Kd.V_slice HO_173000.out
              subst eo17
              go_wp2_with (first | ((with_reducible refine gate_callee (f := 9) rfl ?_); refine goesL_ (some 35) rfl rfl Try.func9 (by kernel_rfl) rfl #[.agg #[.slice Ao17 x173000_2.length co17, .int .i64 x173001_2]] rfl (by (try simp only [List.map_toArray, List.map_cons, List.map_nil]); first | done | rfl | (simp only [List.length_drop, List.length_take]; rfl)) ?_; (with_reducible refine (draw_Take.calls (fun k_ => ((P0_ k_ ∨ w.heap.size ≤ k_) ∧ k_ ≠ gb172)) _ _ x173000_2 x173001_2 t173 t176 t177 _ ?side1 A15.out).mono ?_); (case side1 => exact HO_173000.out); rintro e w18 ⟨v174, rfl, ho0, hb⟩; refine ⟨_, rfl, ?_⟩; have n0_ := Aside0.mk (Kd.V_below (by (with_reducible repeat (first | apply Kd.V_alloc | apply Kd.V_drewN | apply Kd.V_drew)); exact HO_0.out) hb); have n1_ := Aside0.mk (Kd.V_below (by (with_reducible repeat (first | apply Kd.V_alloc | apply Kd.V_drewN | apply Kd.V_drew)); exact HO_173000.out) hb); have n2_ := Aside0.mk (Kd.V_lower (Kd.V_mono (ok' := fun k_ => (P0_ k_ ∨ w.heap.size ≤ k_) ∧ k_ ≠ gb172) ho0 (fun k_ hk_ => ⟨Or.elim hk_ (fun hs_ => hs_.1) (fun hn_ => (.inr (Nat.le_trans (below_size (by repeat (first | (with_reducible first | exact HB.out | apply below_alloc | apply pw_below_drewN | apply below_drew1 | refine below_set ?_ GE172.out) | exact HB.out))) hn_))), Or.elim hk_ (fun hs_ => hs_.2) (fun hn_ => (Kd.freshB (g := gb172) (o := .cells #[.slice Ao17 x173000_2.length co17, .int .i64 x173001_2] 24 (0, 0)) (by (with_reducible repeat (first | refine blk_drewN ?_ _ | refine blk_drew ?_ | refine blk_alloc ?_ _)); exact BK172.out) k_ hn_))⟩)) (below_size (by repeat (first | (with_reducible first | exact HB.out | apply below_alloc | apply pw_below_drewN | apply below_drew1 | refine below_set ?_ GE172.out) | exact HB.out)))); have n3_ := Aside0.mk (blk_below (g := gb172) (o := .cells #[.slice Ao17 x173000_2.length co17, .int .i64 x173001_2] 24 (0, 0)) (by (with_reducible repeat (first | refine blk_drewN ?_ _ | refine blk_drew ?_ | refine blk_alloc ?_ _)); exact BK172.out) hb); have n4_ := Aside0.mk (below_step (by repeat (first | (with_reducible first | exact HB.out | apply below_alloc | apply pw_below_drewN | apply below_drew1 | refine below_set ?_ GE172.out) | exact HB.out)) hb); clear HO_0; clear HO_173000; clear BK172; clear HB; have HO_0 := n0_; have HO_173000 := n1_; have HO175 := n2_; have BK172 := n3_; have HB := n4_; clear n0_ n1_ n2_ n3_ n4_; (try clear hb); (try clear hb2); (try clear hk); (try clear hi); (try clear ho0); obtain ⟨Ao19, co19, eo19⟩ := Kd.V_slice HO175.out; subst eo19; have hcz20_0 : w18.cell? ⟨gb172, 0, none⟩ = some (.slice Ao17 x173000_2.length co17) := (blk_cell BK172.out 0).trans rfl; have hcz20_1 : w18.cell? ⟨gb172, 1, none⟩ = some (.int .i64 x173001_2) := (blk_cell BK172.out 1).trans rfl; have hfz20_0 := blk_frozen BK172.out 0; have hfz20_1 := blk_frozen BK172.out 1))
              go_roundg k2
              case measure => have := HJ3.out; have := HK2.out; omega
              case rel => exact ⟨(wrap64 (x8_2 + 1)), (t173), (t176), (.slice Ao19 t173.length co19), (by first | rfl | (simp; done) | (simp [*]; done)), H', ⟨by have := HJ3.out; have := HK2.out; omega⟩, ⟨by (with_reducible repeat (first | apply Kd.V_alloc | apply Kd.V_drewN | apply Kd.V_drew)); exact Kd.V_mono (Kd.V_far (p := ⟨gb172, 1, none⟩) (Kd.V_far (p := ⟨gb172, 0, none⟩) (Kd.V_mono HO_0.out (fun k_ hk => (⟨hk, hk.2⟩ : _ ∧ k_ ≠ gb172))) (fun _ hk => hk.2) (.slice Ao19 t173.length co19)) (fun _ hk => hk.2) (.int .i64 t176)) (fun _ hk => ⟨hk.1.1, hk.1.2⟩)⟩, ⟨by (with_reducible repeat (first | apply Kd.V_alloc | apply Kd.V_drewN | apply Kd.V_drew)); exact Kd.V_mono (Kd.V_far (p := ⟨gb172, 1, none⟩) (Kd.V_far (p := ⟨gb172, 0, none⟩) (Kd.V_mono HO175.out (fun k_ hk => (⟨hk, hk.2⟩ : _ ∧ k_ ≠ gb172))) (fun _ hk => hk.2) (.slice Ao19 t173.length co19)) (fun _ hk => hk.2) (.int .i64 t176)) (fun _ hk => ⟨hk.1.1, hk.1.2⟩)⟩, ⟨by (with_reducible repeat (first | refine blk_drewN ?_ _ | refine blk_drew ?_ | refine blk_alloc ?_ _)); refine blk_put (cs := #[.slice Ao19 t173.length co19, .int .i64 x173001_2]) ?_ 1 _ rfl; (with_reducible repeat (first | refine blk_drewN ?_ _ | refine blk_drew ?_ | refine blk_alloc ?_ _)); refine blk_put (cs := #[.slice Ao17 x173000_2.length co17, .int .i64 x173001_2]) ?_ 0 _ rfl; (with_reducible repeat (first | refine blk_drewN ?_ _ | refine blk_drew ?_ | refine blk_alloc ?_ _)); exact BK172.out⟩, ⟨by repeat (first | (with_reducible first | exact HB.out | apply below_alloc | apply pw_below_drewN | apply below_drew1 | refine below_set ?_ GE172.out) | exact HB.out)⟩⟩
            · rw [if_neg c14] at H
              have c14b0 : decide (x8_2 < (wrap64 (a1))) = false := decide_eq_false c14
              clear c14
              replace H := Option.bind_eq_some_iff.mp H
              obtain ⟨t178, A210, H⟩ := H
              replace H : ((draw_Peek.f k2 x173000_2 x173001_2 (wrap64 (a2))).bind fun t181 => (if (t181.length : Int) = (wrap64 (a2)) then (chamberlainlaw04_DrawOnce.j2 k2 l0 a2 t178 t181 ((t178.length : Int) != (wrap64 (a1))) x173000_2 x173001_2) else (chamberlainlaw04_DrawOnce.j2 k2 l0 a2 t178 t181 true x173000_2 x173001_2))) = some r := H
              have A21 := Aside0.mk A210
              clear A210
              replace H := Option.bind_eq_some_iff.mp H
              obtain ⟨t181, A220, H⟩ := H
              replace H : (if (t181.length : Int) = (wrap64 (a2)) then (chamberlainlaw04_DrawOnce.j2 k2 l0 a2 t178 t181 ((t178.length : Int) != (wrap64 (a1))) x173000_2 x173001_2) else (chamberlainlaw04_DrawOnce.j2 k2 l0 a2 t178 t181 true x173000_2 x173001_2)) = some r := H
              have A22 := Aside0.mk A220
              clear A220
              have HC23 := Aside0.mk H
              clear H
              have hcz24_0 : wr.cell? ⟨gb172, 0, none⟩ = some (u173000) := (blk_cell BK172.out 0).trans rfl
              have hcz24_1 : wr.cell? ⟨gb172, 1, none⟩ = some (.int .i64 x173001_2) := (blk_cell BK172.out 1).trans rfl
              have hfz24_0 := blk_frozen BK172.out 0
              have hfz24_1 := blk_frozen BK172.out 1
              obtain ⟨Ao25, co25, eo25⟩ := Kd.V_slice HO_173000.out
              subst eo25
              go_upto_region 10 with (first | ((with_reducible refine gate_callee (f := 15) rfl ?_); refine goesL_ (some 39) rfl rfl Try.func15 (by kernel_rfl) rfl #[.agg #[.slice Ao25 x173000_2.length co25, .int .i64 x173001_2]] rfl (by (try simp only [List.map_toArray, List.map_cons, List.map_nil]); first | done | rfl | (simp only [List.length_drop, List.length_take]; rfl)) ?_; (with_reducible refine (draw_Drawn.calls k2 _ _ x173000_2 x173001_2 t178 _ ?side1 ?side2 A21.out).mono ?_); (case side1 => repeat (first | exact (Kd.V_reads' HO_173000.out).2.2 | (with_reducible refine Kd.C_alloc ?_ _) | (with_reducible refine Kd.C_drewN ?_ _) | (with_reducible refine Kd.C_drew ?_))); (case side2 => exact (Kd.V_reads' HO_173000.out).2.1); rintro e w26 ⟨v179, rfl, ho0, hb⟩; refine ⟨_, rfl, ?_⟩; have n0_ := Aside0.mk (Kd.V_elder' (by (with_reducible repeat (first | apply Kd.V_alloc | apply Kd.V_drewN | apply Kd.V_drew)); exact HO_0.out) (Kd.R_base ho0) hb); have n1_ := Aside0.mk (Kd.V_elder' (by (with_reducible repeat (first | apply Kd.V_alloc | apply Kd.V_drewN | apply Kd.V_drew)); exact HO_173000.out) (Kd.R_base ho0) hb); have n2_ := Aside0.mk (Kd.R_lower (Kd.R_newM (M := fun k_ => (w.heap.size ≤ k_)) ho0 (below_size (by repeat (first | (with_reducible first | exact HB.out | apply below_alloc | apply pw_below_drewN | apply below_drew1 | refine below_set ?_ GE172.out) | exact HB.out))) (fun k_ h_ => h_)) (below_size (by repeat (first | (with_reducible first | exact HB.out | apply below_alloc | apply pw_below_drewN | apply below_drew1 | refine below_set ?_ GE172.out) | exact HB.out)))); have n3_ := Aside0.mk (blk_below (g := gb172) (o := .cells #[.slice Ao25 x173000_2.length co25, .int .i64 x173001_2] 24 (0, 0)) (by (with_reducible repeat (first | refine blk_drewN ?_ _ | refine blk_drew ?_ | refine blk_alloc ?_ _)); exact BK172.out) hb); have n4_ := Aside0.mk (below_step (by repeat (first | (with_reducible first | exact HB.out | apply below_alloc | apply pw_below_drewN | apply below_drew1 | refine below_set ?_ GE172.out) | exact HB.out)) hb); clear HO_0; clear HO_173000; clear BK172; clear HB; have HO_0 := n0_; have HO_173000 := n1_; have HO180 := n2_; have BK172 := n3_; have HB := n4_; clear n0_ n1_ n2_ n3_ n4_; (try clear hb); (try clear hb2); (try clear hk); (try clear hi); (try clear ho0); have hcz27_0 : w26.cell? ⟨gb172, 0, none⟩ = some (.slice Ao25 x173000_2.length co25) := (blk_cell BK172.out 0).trans rfl; have hcz27_1 : w26.cell? ⟨gb172, 1, none⟩ = some (.int .i64 x173001_2) := (blk_cell BK172.out 1).trans rfl; have hfz27_0 := blk_frozen BK172.out 0; have hfz27_1 := blk_frozen BK172.out 1) | ((with_reducible refine gate_callee (f := 13) rfl ?_); refine goesL_ (some 43) rfl rfl Try.func13 (by kernel_rfl) rfl #[.agg #[.slice Ao25 x173000_2.length co25, .int .i64 x173001_2], .int .i64 (wrap64 (a2))] rfl (by (try simp only [List.map_toArray, List.map_cons, List.map_nil]); first | done | rfl | (simp only [List.length_drop, List.length_take]; rfl)) ?_; (with_reducible refine (draw_Peek.calls k2 _ _ x173000_2 x173001_2 (wrap64 (a2)) t181 _ ?side1 ?side2 A22.out).mono ?_); (case side1 => repeat (first | exact (Kd.V_reads' HO_173000.out).2.2 | (with_reducible refine Kd.C_alloc ?_ _) | (with_reducible refine Kd.C_drewN ?_ _) | (with_reducible refine Kd.C_drew ?_))); (case side2 => exact (Kd.V_reads' HO_173000.out).2.1); rintro e w28 ⟨v182, rfl, ho0, hb⟩; refine ⟨_, rfl, ?_⟩; have n0_ := Aside0.mk (Kd.V_elder' (by (with_reducible repeat (first | apply Kd.V_alloc | apply Kd.V_drewN | apply Kd.V_drew)); exact HO_0.out) (Kd.R_base ho0) hb); have n1_ := Aside0.mk (Kd.V_elder' (by (with_reducible repeat (first | apply Kd.V_alloc | apply Kd.V_drewN | apply Kd.V_drew)); exact HO_173000.out) (Kd.R_base ho0) hb); have n2_ := Aside0.mk (Kd.R_elder' (by (with_reducible repeat (first | apply Kd.R_alloc | apply Kd.R_drewN | apply Kd.R_drew)); exact HO180.out) (Kd.R_base ho0) hb); have n3_ := Aside0.mk (Kd.R_lower (Kd.R_new' (Kd.R_newM (M := fun k_ => (w.heap.size ≤ k_)) ho0 (below_size (by repeat (first | (with_reducible first | exact HB.out | apply below_alloc | apply pw_below_drewN | apply below_drew1 | refine below_set ?_ GE172.out) | exact HB.out))) (fun k_ h_ => h_)) (Kd.R_lt (by (with_reducible repeat (first | apply Kd.R_alloc | apply Kd.R_drewN | apply Kd.R_drew)); exact HO180.out))) (below_size (by repeat (first | (with_reducible first | exact HB.out | apply below_alloc | apply pw_below_drewN | apply below_drew1 | refine below_set ?_ GE172.out) | exact HB.out)))); have n4_ := Aside0.mk (blk_below (g := gb172) (o := .cells #[.slice Ao25 x173000_2.length co25, .int .i64 x173001_2] 24 (0, 0)) (by (with_reducible repeat (first | refine blk_drewN ?_ _ | refine blk_drew ?_ | refine blk_alloc ?_ _)); exact BK172.out) hb); have n5_ := Aside0.mk (below_step (by repeat (first | (with_reducible first | exact HB.out | apply below_alloc | apply pw_below_drewN | apply below_drew1 | refine below_set ?_ GE172.out) | exact HB.out)) hb); clear HO_0; clear HO_173000; clear HO180; clear BK172; clear HB; have HO_0 := n0_; have HO_173000 := n1_; have HO180 := n2_; have HO183 := n3_; have BK172 := n4_; have HB := n5_; clear n0_ n1_ n2_ n3_ n4_ n5_; (try clear hb); (try clear hb2); (try clear hk); (try clear hi); (try clear ho0)))
              (try simp only [Act.put, List.setIfInBounds_toArray, List.set_cons_zero, List.set_cons_succ])
              go_cut [55] (fun v55 wc => ∃ (kq : Nat) (x55_22 : Bool), v55 = .bool x55_22 ∧ Aside0 (chamberlainlaw04_DrawOnce.j2 kq l0 a2 t178 t181 x55_22 x173000_2 x173001_2 = some r) ∧ Aside0 (kq ≤ k2) ∧ Aside0 (Kd.V (Kd.int .u32) 27 wc w.heap.size (fun k_ => (P0_ k_ ∨ w.heap.size ≤ k_) ∧ some k_ ≠ (v179 : Value).ownBlock ∧ some k_ ≠ (v182 : Value).ownBlock ∧ k_ ≠ gb172) (.slice A0 l0.length c0) l0) ∧ Aside0 (Kd.R (Kd.int .u32) 27 wc w.heap.size (fun k_ => (w.heap.size ≤ k_) ∧ some k_ ≠ (v182 : Value).ownBlock) v179 t178) ∧ Aside0 (Kd.R (Kd.int .u32) 27 wc w.heap.size (fun k_ => (w.heap.size ≤ k_) ∧ some k_ ≠ (v179 : Value).ownBlock) v182 t181) ∧ Aside0 (Kd.V (Kd.int .u32) 27 wc w.heap.size (fun k_ => (P0_ k_ ∨ w.heap.size ≤ k_) ∧ some k_ ≠ (v179 : Value).ownBlock ∧ some k_ ≠ (v182 : Value).ownBlock ∧ k_ ≠ gb172) (.slice Ao25 x173000_2.length co25) x173000_2) ∧ Aside0 (wc.heap[gb172]? = some (.cells #[(.slice Ao25 x173000_2.length co25), .int .i64 x173001_2] 24 (0, 0))) ∧ Aside0 (Below w.heap.size w wc))
              case first =>
                have H := HC23.out
                clear HC23
                by_cases c29 : (t181.length : Int) = (wrap64 (a2))
                · rw [if_pos c29] at H
                  have c29b0 : ((t181.length : Int) == (wrap64 (a2))) = true := beq_iff_eq.mpr c29
                  have c29b1 : ((t181.length : Int) != (wrap64 (a2))) = false := bne_eq_false_iff_eq.mpr c29
                  clear c29
                  (first | rw [c29b0] | (simp only [i64_w, i32_w]; rw [c29b0]) | skip)
                  have H' := Aside0.mk H
                  clear H
                  obtain ⟨Ao30, co30, eo30⟩ := Kd.R_slice HO183.out
                  subst eo30
                  obtain ⟨Ao31, co31, eo31⟩ := Kd.R_slice HO180.out
                  subst eo31
                  go_wp2
                  go_meet
                  case rel => exact ⟨_, (((t178.length : Int) != (wrap64 (a1)))), (by first | rfl | (simp; done) | (simp [*]; done)), H', ⟨by have := HJ3.out; have := HK2.out; first | omega | exact Nat.le_refl _⟩, ⟨by (with_reducible repeat (first | apply Kd.V_alloc | apply Kd.V_drewN | apply Kd.V_drew)); exact Kd.V_mono HO_0.out (fun _ hk => ⟨hk.1.1.1, ⟨hk.1.2, ⟨hk.2, hk.1.1.2⟩⟩⟩)⟩, ⟨by (with_reducible repeat (first | apply Kd.R_alloc | apply Kd.R_drewN | apply Kd.R_drew)); exact Kd.R_mono HO180.out (fun _ hk => ⟨hk.1.1, hk.2⟩)⟩, ⟨by (with_reducible repeat (first | apply Kd.R_alloc | apply Kd.R_drewN | apply Kd.R_drew)); exact Kd.R_mono HO183.out (fun _ hk => ⟨hk.1.1, hk.2⟩)⟩, ⟨by (with_reducible repeat (first | apply Kd.V_alloc | apply Kd.V_drewN | apply Kd.V_drew)); exact Kd.V_mono HO_173000.out (fun _ hk => ⟨hk.1.1.1, ⟨hk.1.2, ⟨hk.2, hk.1.1.2⟩⟩⟩)⟩, ⟨by (with_reducible repeat (first | refine blk_drewN ?_ _ | refine blk_drew ?_ | refine blk_alloc ?_ _)); exact BK172.out⟩, ⟨by repeat (first | (with_reducible first | exact HB.out | apply below_alloc | apply pw_below_drewN | apply below_drew1 | refine below_set ?_ GE172.out) | exact HB.out)⟩⟩
                · rw [if_neg c29] at H
                  have c29b0 : ((t181.length : Int) == (wrap64 (a2))) = false := beq_eq_false_iff_ne.mpr c29
                  have c29b1 : ((t181.length : Int) != (wrap64 (a2))) = true := bne_iff_ne.mpr c29
                  (first | rw [c29b0] | (simp only [i64_w, i32_w]; rw [c29b0]) | skip)
                  have H' := Aside0.mk H
                  clear H
                  obtain ⟨Ao32, co32, eo32⟩ := Kd.R_slice HO183.out
                  subst eo32
                  go_wp2
                  go_meet
                  case rel => exact ⟨_, (true), (by first | rfl | (simp; done) | (simp [*]; done)), H', ⟨by have := HJ3.out; have := HK2.out; first | omega | exact Nat.le_refl _⟩, ⟨by (with_reducible repeat (first | apply Kd.V_alloc | apply Kd.V_drewN | apply Kd.V_drew)); exact Kd.V_mono HO_0.out (fun _ hk => ⟨hk.1.1.1, ⟨hk.1.2, ⟨hk.2, hk.1.1.2⟩⟩⟩)⟩, ⟨by (with_reducible repeat (first | apply Kd.R_alloc | apply Kd.R_drewN | apply Kd.R_drew)); exact Kd.R_mono HO180.out (fun _ hk => ⟨hk.1.1, hk.2⟩)⟩, ⟨by (with_reducible repeat (first | apply Kd.R_alloc | apply Kd.R_drewN | apply Kd.R_drew)); exact Kd.R_mono HO183.out (fun _ hk => ⟨hk.1.1, hk.2⟩)⟩, ⟨by (with_reducible repeat (first | apply Kd.V_alloc | apply Kd.V_drewN | apply Kd.V_drew)); exact Kd.V_mono HO_173000.out (fun _ hk => ⟨hk.1.1.1, ⟨hk.1.2, ⟨hk.2, hk.1.1.2⟩⟩⟩)⟩, ⟨by (with_reducible repeat (first | refine blk_drewN ?_ _ | refine blk_drew ?_ | refine blk_alloc ?_ _)); exact BK172.out⟩, ⟨by repeat (first | (with_reducible first | exact HB.out | apply below_alloc | apply pw_below_drewN | apply below_drew1 | refine below_set ?_ GE172.out) | exact HB.out)⟩⟩
              case rest =>
                clear HC23
                try clear c1
                try clear c2
                try clear p2
                try clear c5
                try clear c6
                try clear p6
                try clear c7
                try clear c9
                try clear c13
                try clear c14
                try clear c14b0
                try clear c15
                try clear c29
                try clear c29b0
                try clear c29b1
                try clear hcz13_0
                try clear hcz13_1
                try clear hcz16_0
                try clear hcz16_1
                try clear hcz20_0
                try clear hcz20_1
                try clear hcz24_0
                try clear hcz24_1
                try clear hcz27_0
                try clear hcz27_1
                try clear hfz13_0
                try clear hfz13_1
                try clear hfz16_0
                try clear hfz16_1
                try clear hfz20_0
                try clear hfz20_1
                try clear hfz24_0
                try clear hfz24_1
                try clear hfz27_0
                try clear hfz27_1
                try clear p2
                obtain ⟨kq, x55_22, rfl, HA, HJ22, HO_0, HO_9, HO_10, HO_173000, BK172, HB⟩ := hcut
                cases kq with
                | zero => exact absurd HA.out (by simp [chamberlainlaw04_DrawOnce.j2])
                | succ kj22 =>
                  have H := HA.out
                  clear HA
                  simp only [chamberlainlaw04_DrawOnce.j2] at H
                  by_cases c33 : x55_22 = true
                  · subst c33
                    have H1 : (some false) = some r := by rw [if_pos rfl] at H; exact H
                    clear H
                    have H := H1
                    clear H1
                    exact absurd (hT.out.symm.trans (Option.some.inj H).symm) (by decide)
                  · replace c33 := Bool.eq_false_iff.mpr c33
                    subst c33
                    have H1 : (chamberlainlaw04_DrawOnce.l1 kj22 l0 a2 t178 t181 0 x173000_2 x173001_2) = some r := by rw [if_neg (show ¬ (false = true) by decide)] at H; exact H
                    clear H
                    have H := H1
                    clear H1
                    have H' := Aside0.mk H
                    clear H
                    go_wp2
                    go_loopg [11] kj22 (fun kq v11 w' => ∃ (x11_4 : Int) (x173000_4 : List Int) (x173001_4 : Int) (u173000 : Value), v11 = .int .i64 x11_4 ∧ Aside0 (chamberlainlaw04_DrawOnce.l1 kq l0 a2 t178 t181 x11_4 x173000_4 x173001_4 = some r) ∧ Aside0 (kq ≤ kj22) ∧ Aside0 (Kd.V (Kd.int .u32) 27 w' w.heap.size (fun k_ => (P0_ k_ ∨ w.heap.size ≤ k_) ∧ some k_ ≠ (v179 : Value).ownBlock ∧ some k_ ≠ (v182 : Value).ownBlock ∧ k_ ≠ gb172) (.slice A0 l0.length c0) l0) ∧ Aside0 (Kd.R (Kd.int .u32) 27 w' w.heap.size (fun k_ => (w.heap.size ≤ k_) ∧ some k_ ≠ (v182 : Value).ownBlock) v179 t178) ∧ Aside0 (Kd.R (Kd.int .u32) 27 w' w.heap.size (fun k_ => (w.heap.size ≤ k_) ∧ some k_ ≠ (v179 : Value).ownBlock) v182 t181) ∧ Aside0 (Kd.V (Kd.int .u32) 27 w' w.heap.size (fun k_ => (P0_ k_ ∨ w.heap.size ≤ k_) ∧ some k_ ≠ (v179 : Value).ownBlock ∧ some k_ ≠ (v182 : Value).ownBlock ∧ k_ ≠ gb172) u173000 x173000_4) ∧ Aside0 (w'.heap[gb172]? = some (.cells #[u173000, .int .i64 x173001_4] 24 (0, 0))) ∧ Aside0 (Below w.heap.size w w'))
                    case atStart => exact ⟨(0), (x173000_2), (x173001_2), (.slice Ao25 x173000_2.length co25), (by first | rfl | (simp; done) | (simp [*]; done)), H', ⟨Nat.le_refl _⟩, ⟨by (with_reducible repeat (first | apply Kd.V_alloc | apply Kd.V_drewN | apply Kd.V_drew)); exact HO_0.out⟩, ⟨by (with_reducible repeat (first | apply Kd.R_alloc | apply Kd.R_drewN | apply Kd.R_drew)); exact HO_9.out⟩, ⟨by (with_reducible repeat (first | apply Kd.R_alloc | apply Kd.R_drewN | apply Kd.R_drew)); exact HO_10.out⟩, ⟨by (with_reducible repeat (first | apply Kd.V_alloc | apply Kd.V_drewN | apply Kd.V_drew)); exact HO_173000.out⟩, ⟨by (with_reducible repeat (first | refine blk_drewN ?_ _ | refine blk_drew ?_ | refine blk_alloc ?_ _)); exact BK172.out⟩, ⟨by repeat (first | (with_reducible first | exact HB.out | apply below_alloc | apply pw_below_drewN | apply below_drew1 | refine below_set ?_ GE172.out) | exact HB.out)⟩⟩
                    case round =>
                      clear H'
                      try clear c1
                      try clear c2
                      try clear p2
                      try clear c3
                      try clear c5
                      try clear c6
                      try clear p6
                      try clear c7
                      try clear c9
                      try clear c13
                      try clear c14
                      try clear c14b0
                      try clear c15
                      try clear c29
                      try clear c29b0
                      try clear c29b1
                      try clear c33
                      try clear hcz13_0
                      try clear hcz13_1
                      try clear hcz16_0
                      try clear hcz16_1
                      try clear hcz20_0
                      try clear hcz20_1
                      try clear hcz24_0
                      try clear hcz24_1
                      try clear hcz27_0
                      try clear hcz27_1
                      try clear hfz13_0
                      try clear hfz13_1
                      try clear hfz16_0
                      try clear hfz16_1
                      try clear hfz20_0
                      try clear hfz20_1
                      try clear hfz24_0
                      try clear hfz24_1
                      try clear hfz27_0
                      try clear hfz27_1
                      try clear p2
                      try clear p6
                      obtain ⟨x11_4, x173000_4, x173001_4, u173000, rfl, HA, HK4, HO_0, HO_9, HO_10, HO_173000, BK172, HB⟩ := hrel
                      cases gk with
                      | zero => exact absurd HA.out (by simp [chamberlainlaw04_DrawOnce.l1])
                      | succ k4 =>
                        have H := HA.out
                        clear HA
                        simp only [chamberlainlaw04_DrawOnce.l1] at H
                        by_cases c34 : x11_4 < (wrap64 (a2))
                        · rw [if_pos c34] at H
                          have c34b0 : decide (x11_4 < (wrap64 (a2))) = true := decide_eq_true c34
                          clear c34
                          replace H := Option.bind_eq_some_iff.mp H
                          obtain ⟨⟨t184, t187, t188⟩, A350, H⟩ := H
                          replace H : (if 0 ≤ x11_4 then (if x11_4 < (t181.length : Int) then (if t188 = (rd t181 x11_4) then (if t188 < 2147483648 then (some false) else (if t187 = (wrap64 (x173001_4 + 1)) then (chamberlainlaw04_DrawOnce.l1 k4 l0 a2 t178 t181 (wrap64 (x11_4 + 1)) t184 t187) else (some false))) else (some false)) else (none)) else (none)) = some r := H
                          have A35 := Aside0.mk A350
                          clear A350
                          by_cases c36 : 0 ≤ x11_4
                          · rw [if_pos c36] at H
                            have c36b0 : decide (0 ≤ x11_4) = true := decide_eq_true c36
                            clear c36
                            by_cases c37 : x11_4 < (t181.length : Int)
                            · rw [if_pos c37] at H
                              have c37b0 : decide (x11_4 < (t181.length : Int)) = true := decide_eq_true c37
                              clear c37
                              by_cases c38 : t188 = (rd t181 x11_4)
                              · rw [if_pos c38] at H
                                have c38b0 : (t188 == (rd t181 x11_4)) = true := beq_iff_eq.mpr c38
                                have c38b1 : (t188 != (rd t181 x11_4)) = false := bne_eq_false_iff_eq.mpr c38
                                clear c38
                                by_cases c39 : t188 < 2147483648
                                · rw [if_pos c39] at H
                                  have c39b0 : decide (t188 < 2147483648) = true := decide_eq_true c39
                                  clear c39
                                  exact absurd (hT.out.symm.trans (Option.some.inj H).symm) (by decide)
                                · rw [if_neg c39] at H
                                  have c39b0 : decide (t188 < 2147483648) = false := decide_eq_false c39
                                  clear c39
                                  by_cases c48 : t187 = (wrap64 (x173001_4 + 1))
                                  · rw [if_pos c48] at H
                                    have c48b0 : (t187 == (wrap64 (x173001_4 + 1))) = true := beq_iff_eq.mpr c48
                                    have c48b1 : (t187 != (wrap64 (x173001_4 + 1))) = false := bne_eq_false_iff_eq.mpr c48
                                    clear c48
                                    have H' := Aside0.mk H
                                    clear H
                                    have hcz49_0 : wr.cell? ⟨gb172, 0, none⟩ = some (u173000) := (blk_cell BK172.out 0).trans rfl
                                    have hcz49_1 : wr.cell? ⟨gb172, 1, none⟩ = some (.int .i64 x173001_4) := (blk_cell BK172.out 1).trans rfl
                                    have hfz49_0 := blk_frozen BK172.out 0
                                    have hfz49_1 := blk_frozen BK172.out 1
                                    obtain ⟨Ao50, co50, eo50⟩ := Kd.V_slice HO_173000.out
                                    subst eo50
                                    go_wp2_with (first | ((with_reducible refine gate_callee (f := 9) rfl ?_); refine goesL_ (some 64) rfl rfl Try.func9 (by kernel_rfl) rfl #[.agg #[.slice Ao50 x173000_4.length co50, .int .i64 x173001_4]] rfl (by (try simp only [List.map_toArray, List.map_cons, List.map_nil]); first | done | rfl | (simp only [List.length_drop, List.length_take]; rfl)) ?_; (with_reducible refine (draw_Take.calls (fun k_ => ((P0_ k_ ∨ w.heap.size ≤ k_) ∧ (some k_ ≠ (v179 : Value).ownBlock ∧ (some k_ ≠ (v182 : Value).ownBlock ∧ k_ ≠ gb172)))) _ _ x173000_4 x173001_4 t184 t187 t188 _ ?side1 A35.out).mono ?_); (case side1 => exact HO_173000.out); rintro e w51 ⟨v185, rfl, ho0, hb⟩; refine ⟨_, rfl, ?_⟩; have n0_ := Aside0.mk (Kd.V_below (by (with_reducible repeat (first | apply Kd.V_alloc | apply Kd.V_drewN | apply Kd.V_drew)); exact HO_0.out) hb); have n1_ := Aside0.mk (Kd.R_below (by (with_reducible repeat (first | apply Kd.R_alloc | apply Kd.R_drewN | apply Kd.R_drew)); exact HO_9.out) hb); have n2_ := Aside0.mk (Kd.R_below (by (with_reducible repeat (first | apply Kd.R_alloc | apply Kd.R_drewN | apply Kd.R_drew)); exact HO_10.out) hb); have n3_ := Aside0.mk (Kd.V_below (by (with_reducible repeat (first | apply Kd.V_alloc | apply Kd.V_drewN | apply Kd.V_drew)); exact HO_173000.out) hb); have n4_ := Aside0.mk (Kd.V_lower (Kd.V_mono (ok' := fun k_ => (P0_ k_ ∨ w.heap.size ≤ k_) ∧ some k_ ≠ (v179 : Value).ownBlock ∧ some k_ ≠ (v182 : Value).ownBlock ∧ k_ ≠ gb172) ho0 (fun k_ hk_ => ⟨Or.elim hk_ (fun hs_ => hs_.1) (fun hn_ => (.inr (Nat.le_trans (below_size (by repeat (first | (with_reducible first | exact HB.out | apply below_alloc | apply pw_below_drewN | apply below_drew1 | refine below_set ?_ GE172.out) | exact HB.out))) hn_))), Or.elim hk_ (fun hs_ => hs_.2.1) (fun hn_ => (Kd.fresh' (Kd.R_lt (by (with_reducible repeat (first | apply Kd.R_alloc | apply Kd.R_drewN | apply Kd.R_drew)); exact HO_9.out)) k_ hn_)), Or.elim hk_ (fun hs_ => hs_.2.2.1) (fun hn_ => (Kd.fresh' (Kd.R_lt (by (with_reducible repeat (first | apply Kd.R_alloc | apply Kd.R_drewN | apply Kd.R_drew)); exact HO_10.out)) k_ hn_)), Or.elim hk_ (fun hs_ => hs_.2.2.2) (fun hn_ => (Kd.freshB (g := gb172) (o := .cells #[.slice Ao50 x173000_4.length co50, .int .i64 x173001_4] 24 (0, 0)) (by (with_reducible repeat (first | refine blk_drewN ?_ _ | refine blk_drew ?_ | refine blk_alloc ?_ _)); exact BK172.out) k_ hn_))⟩)) (below_size (by repeat (first | (with_reducible first | exact HB.out | apply below_alloc | apply pw_below_drewN | apply below_drew1 | refine below_set ?_ GE172.out) | exact HB.out)))); have n5_ := Aside0.mk (blk_below (g := gb172) (o := .cells #[.slice Ao50 x173000_4.length co50, .int .i64 x173001_4] 24 (0, 0)) (by (with_reducible repeat (first | refine blk_drewN ?_ _ | refine blk_drew ?_ | refine blk_alloc ?_ _)); exact BK172.out) hb); have n6_ := Aside0.mk (below_step (by repeat (first | (with_reducible first | exact HB.out | apply below_alloc | apply pw_below_drewN | apply below_drew1 | refine below_set ?_ GE172.out) | exact HB.out)) hb); clear HO_0; clear HO_9; clear HO_10; clear HO_173000; clear BK172; clear HB; have HO_0 := n0_; have HO_9 := n1_; have HO_10 := n2_; have HO_173000 := n3_; have HO186 := n4_; have BK172 := n5_; have HB := n6_; clear n0_ n1_ n2_ n3_ n4_ n5_ n6_; (try clear hb); (try clear hb2); (try clear hk); (try clear hi); (try clear ho0)) | ((with_reducible refine gate_dst (N := 12) rfl ?_); (try (refine gate_guard (by rfl) ?_; dsimp only)); refine box_event ?hg (N := 12) ?hd (cs := #[.slice none 0 0, .int .i64 0]) (t := 24) ?hr ?_; (case hd => rfl); (case hg => rfl); (case hr => first | (go_simp; done) | (go_simp; rfl)); intro gb189 hg w52 hbox hb; have n0_ := Aside0.mk (Kd.V_below (Kd.V_elderB (by (with_reducible repeat (first | apply Kd.V_alloc | apply Kd.V_drewN | apply Kd.V_drew)); exact HO_0.out) gb189 (Nat.le_of_eq hg.symm)) hb); have n1_ := Aside0.mk (Kd.R_below (by (with_reducible repeat (first | apply Kd.R_alloc | apply Kd.R_drewN | apply Kd.R_drew)); exact HO_9.out) hb); have n2_ := Aside0.mk (Kd.R_below (by (with_reducible repeat (first | apply Kd.R_alloc | apply Kd.R_drewN | apply Kd.R_drew)); exact HO_10.out) hb); have n3_ := Aside0.mk (Kd.V_below (Kd.V_elderB (by (with_reducible repeat (first | apply Kd.V_alloc | apply Kd.V_drewN | apply Kd.V_drew)); exact HO_173000.out) gb189 (Nat.le_of_eq hg.symm)) hb); have n4_ := Aside0.mk (Kd.V_below (Kd.V_elderB (by (with_reducible repeat (first | apply Kd.V_alloc | apply Kd.V_drewN | apply Kd.V_drew)); exact HO186.out) gb189 (Nat.le_of_eq hg.symm)) hb); have n5_ := Aside0.mk (blk_below (g := gb172) (o := .cells #[.slice Ao50 x173000_4.length co50, .int .i64 x173001_4] 24 (0, 0)) (by (with_reducible repeat (first | refine blk_drewN ?_ _ | refine blk_drew ?_ | refine blk_alloc ?_ _)); exact BK172.out) hb); have n6_ := Aside0.mk (below_step (by repeat (first | (with_reducible first | exact HB.out | apply below_alloc | apply pw_below_drewN | apply below_drew1 | refine below_set ?_ GE172.out) | exact HB.out)) hb); have n7_ := Aside0.mk (hbox); have n8_ := Aside0.mk ((by rw [hg]; exact (below_size (by repeat (first | (with_reducible first | exact HB.out | apply below_alloc | apply pw_below_drewN | apply below_drew1 | refine below_set ?_ GE172.out) | exact HB.out))) : w.heap.size ≤ gb189)); have n9_ := Aside0.mk ((by rw [hg]; exact (below_size (by repeat (first | (with_reducible first | exact HB.out | apply below_alloc | apply pw_below_drewN | apply below_drew1 | refine below_set ?_ GE172.out) | exact HB.out))) : w.heap.size ≤ gb189)); have n10_ := Aside0.mk ((by rw [hg]; exact Nat.ne_of_lt (blk_lt (g := gb172) (o := .cells #[.slice Ao50 x173000_4.length co50, .int .i64 x173001_4] 24 (0, 0)) (by (with_reducible repeat (first | refine blk_drewN ?_ _ | refine blk_drew ?_ | refine blk_alloc ?_ _)); exact BK172.out)) : gb172 ≠ gb189)); have n11_ := Aside0.mk ((by rw [hg]; exact Nat.ne_of_gt (blk_lt (g := gb172) (o := .cells #[.slice Ao50 x173000_4.length co50, .int .i64 x173001_4] 24 (0, 0)) (by (with_reducible repeat (first | refine blk_drewN ?_ _ | refine blk_drew ?_ | refine blk_alloc ?_ _)); exact BK172.out)) : gb189 ≠ gb172)); clear HO_0; clear HO_9; clear HO_10; clear HO_173000; clear HO186; clear BK172; clear HB; have HO_0 := n0_; have HO_9 := n1_; have HO_10 := n2_; have HO_173000 := n3_; have HO186 := n4_; have BK172 := n5_; have HB := n6_; have BK189 := n7_; have GW189 := n8_; have GE189 := n9_; have NB172_189 := n10_; have NB189_172 := n11_; clear n0_ n1_ n2_ n3_ n4_ n5_ n6_ n7_ n8_ n9_ n10_ n11_; clear hb hbox hg; obtain ⟨Ao53, co53, eo53⟩ := Kd.V_slice HO186.out; subst eo53; have hnb54 := NB189_172.out; have hnc54 := NB172_189.out; have hcz55_0 : w52.cell? ⟨gb189, 0, none⟩ = some (.slice none 0 0) := (blk_cell BK189.out 0).trans rfl; have hcz55_1 : w52.cell? ⟨gb189, 1, none⟩ = some (.int .i64 0) := (blk_cell BK189.out 1).trans rfl; have hfz55_0 := blk_frozen BK189.out 0; have hfz55_1 := blk_frozen BK189.out 1; obtain ⟨Ao56, co56, eo56⟩ := Kd.R_slice HO_10.out; subst eo56; have p190 : 0 ≤ (x11_4 : Int) := of_decide_eq_true (by first | (with_reducible assumption) | assumption); have q190 : x11_4 < (t181.length : Int) := of_decide_eq_true (by first | (with_reducible assumption) | assumption); obtain ⟨ad190, e190, hx190_0⟩ := Kd.at_int (Kd.R_reads' HO_10.out).2.2 x11_4 p190 q190; cases e190; have hn190_0 : ad190.block ≠ gb189 := Kd.own_blk (Kd.R_ne HO_10.out BK189.out (by decide)); have hn190_1 : ad190.block ≠ gb189 := Kd.own_blk (Kd.R_ne HO_10.out BK189.out (by decide)); replace hx190_0 := (cell_far (p := ⟨gb189, 0, none⟩) (by first | (rw [add_block]; exact hn190_0) | (show (Addr.add _ _).block ≠ _; rw [add_block]; exact hn190_0) | exact hn190_0) (.slice Ao53 t184.length co53)).trans hx190_0; replace hx190_0 := (cell_far (p := ⟨gb189, 1, none⟩) (by first | (rw [add_block]; exact hn190_1) | (show (Addr.add _ _).block ≠ _; rw [add_block]; exact hn190_1) | exact hn190_1) (.int .i64 t187)).trans hx190_0; clear hn190_0; clear hn190_1; replace p190 := eq_true p190; replace q190 := eq_true q190; have hcz57_0 : w52.cell? ⟨gb172, 0, none⟩ = some (.slice Ao50 x173000_4.length co50) := (blk_cell BK172.out 0).trans rfl; have hcz57_1 : w52.cell? ⟨gb172, 1, none⟩ = some (.int .i64 x173001_4) := (blk_cell BK172.out 1).trans rfl; have hfz57_0 := blk_frozen BK172.out 0; have hfz57_1 := blk_frozen BK172.out 1))
                                    go_roundg k4
                                    case measure => have := HJ3.out; have := HK2.out; have := HJ22.out; have := HK4.out; omega
                                    case rel => exact ⟨(wrap64 (x11_4 + 1)), (t184), (t187), (.slice Ao53 t184.length co53), (by first | rfl | (simp; done) | (simp [*]; done)), H', ⟨by have := HJ3.out; have := HK2.out; have := HJ22.out; have := HK4.out; omega⟩, ⟨by (with_reducible repeat (first | apply Kd.V_alloc | apply Kd.V_drewN | apply Kd.V_drew)); exact Kd.V_mono (Kd.V_far (p := ⟨gb172, 1, none⟩) (Kd.V_far (p := ⟨gb172, 0, none⟩) (Kd.V_far (p := ⟨gb189, 1, none⟩) (Kd.V_far (p := ⟨gb189, 0, none⟩) (Kd.V_mono (Kd.V_mono HO_0.out (fun k_ hk => (⟨hk, hk.2⟩ : _ ∧ k_ ≠ gb189))) (fun k_ hk => (⟨hk, hk.1.1.2.2.2⟩ : _ ∧ k_ ≠ gb172))) (fun _ hk => hk.1.2) (.slice Ao53 t184.length co53)) (fun _ hk => hk.1.2) (.int .i64 t187)) (fun _ hk => hk.2) (.slice Ao53 t184.length co53)) (fun _ hk => hk.2) (.int .i64 t187)) (fun _ hk => ⟨hk.1.1.1.1, ⟨hk.1.1.1.2.1, ⟨hk.1.1.1.2.2.1, hk.1.1.1.2.2.2⟩⟩⟩)⟩, ⟨by (with_reducible repeat (first | apply Kd.R_alloc | apply Kd.R_drewN | apply Kd.R_drew)); exact Kd.R_mono (Kd.R_far (p := ⟨gb172, 1, none⟩) (Kd.R_far (p := ⟨gb172, 0, none⟩) (Kd.R_far (p := ⟨gb189, 1, none⟩) (Kd.R_far (p := ⟨gb189, 0, none⟩) (Kd.R_types (Kd.R_types HO_9.out BK189.out (by decide)) BK172.out (by decide)) (fun _ hk => hk.1.2) (.slice Ao53 t184.length co53)) (fun _ hk => hk.1.2) (.int .i64 t187)) (fun _ hk => hk.2) (.slice Ao53 t184.length co53)) (fun _ hk => hk.2) (.int .i64 t187)) (fun _ hk => ⟨hk.1.1.1, hk.1.1.2⟩)⟩, ⟨by (with_reducible repeat (first | apply Kd.R_alloc | apply Kd.R_drewN | apply Kd.R_drew)); exact Kd.R_mono (Kd.R_far (p := ⟨gb172, 1, none⟩) (Kd.R_far (p := ⟨gb172, 0, none⟩) (Kd.R_far (p := ⟨gb189, 1, none⟩) (Kd.R_far (p := ⟨gb189, 0, none⟩) (Kd.R_types (Kd.R_types HO_10.out BK189.out (by decide)) BK172.out (by decide)) (fun _ hk => hk.1.2) (.slice Ao53 t184.length co53)) (fun _ hk => hk.1.2) (.int .i64 t187)) (fun _ hk => hk.2) (.slice Ao53 t184.length co53)) (fun _ hk => hk.2) (.int .i64 t187)) (fun _ hk => ⟨hk.1.1.1, hk.1.1.2⟩)⟩, ⟨by (with_reducible repeat (first | apply Kd.V_alloc | apply Kd.V_drewN | apply Kd.V_drew)); exact Kd.V_mono (Kd.V_far (p := ⟨gb172, 1, none⟩) (Kd.V_far (p := ⟨gb172, 0, none⟩) (Kd.V_far (p := ⟨gb189, 1, none⟩) (Kd.V_far (p := ⟨gb189, 0, none⟩) (Kd.V_mono (Kd.V_mono HO186.out (fun k_ hk => (⟨hk, hk.2⟩ : _ ∧ k_ ≠ gb189))) (fun k_ hk => (⟨hk, hk.1.1.2.2.2⟩ : _ ∧ k_ ≠ gb172))) (fun _ hk => hk.1.2) (.slice Ao53 t184.length co53)) (fun _ hk => hk.1.2) (.int .i64 t187)) (fun _ hk => hk.2) (.slice Ao53 t184.length co53)) (fun _ hk => hk.2) (.int .i64 t187)) (fun _ hk => ⟨hk.1.1.1.1, ⟨hk.1.1.1.2.1, ⟨hk.1.1.1.2.2.1, hk.1.1.1.2.2.2⟩⟩⟩)⟩, ⟨by (with_reducible repeat (first | refine blk_drewN ?_ _ | refine blk_drew ?_ | refine blk_alloc ?_ _)); refine blk_put (cs := #[.slice Ao53 t184.length co53, .int .i64 x173001_4]) ?_ 1 _ rfl; (with_reducible repeat (first | refine blk_drewN ?_ _ | refine blk_drew ?_ | refine blk_alloc ?_ _)); refine blk_put (cs := #[.slice Ao50 x173000_4.length co50, .int .i64 x173001_4]) ?_ 0 _ rfl; (with_reducible repeat (first | refine blk_drewN ?_ _ | refine blk_drew ?_ | refine blk_alloc ?_ _)); refine blk_far ?_ NB172_189.out _; (with_reducible repeat (first | refine blk_drewN ?_ _ | refine blk_drew ?_ | refine blk_alloc ?_ _)); refine blk_far ?_ NB172_189.out _; (with_reducible repeat (first | refine blk_drewN ?_ _ | refine blk_drew ?_ | refine blk_alloc ?_ _)); exact BK172.out⟩, ⟨by repeat (first | (with_reducible first | exact HB.out | apply below_alloc | apply pw_below_drewN | apply below_drew1 | refine below_set ?_ GE172.out | refine below_set ?_ GE189.out) | exact HB.out)⟩⟩
                                  · rw [if_neg c48] at H
                                    have c48b0 : (t187 == (wrap64 (x173001_4 + 1))) = false := beq_eq_false_iff_ne.mpr c48
                                    have c48b1 : (t187 != (wrap64 (x173001_4 + 1))) = true := bne_iff_ne.mpr c48
                                    exact absurd (hT.out.symm.trans (Option.some.inj H).symm) (by decide)
                              · rw [if_neg c38] at H
                                have c38b0 : (t188 == (rd t181 x11_4)) = false := beq_eq_false_iff_ne.mpr c38
                                have c38b1 : (t188 != (rd t181 x11_4)) = true := bne_iff_ne.mpr c38
                                exact absurd (hT.out.symm.trans (Option.some.inj H).symm) (by decide)
                            · rw [if_neg c37] at H
                              exact absurd H (by simp)
                          · rw [if_neg c36] at H
                            exact absurd H (by simp)
                        · rw [if_neg c34] at H
                          have c34b0 : decide (x11_4 < (wrap64 (a2))) = false := decide_eq_false c34
                          clear c34
                          replace H := Option.bind_eq_some_iff.mp H
                          obtain ⟨t191, A750, H⟩ := H
                          replace H : (chamberlainlaw04_DrawOnce.l2 k4 l0 t178 t181 t191 true 0) = some r := H
                          have A75 := Aside0.mk A750
                          clear A750
                          have H' := Aside0.mk H
                          clear H
                          have hcz76_0 : wr.cell? ⟨gb172, 0, none⟩ = some (u173000) := (blk_cell BK172.out 0).trans rfl
                          have hcz76_1 : wr.cell? ⟨gb172, 1, none⟩ = some (.int .i64 x173001_4) := (blk_cell BK172.out 1).trans rfl
                          have hfz76_0 := blk_frozen BK172.out 0
                          have hfz76_1 := blk_frozen BK172.out 1
                          obtain ⟨Ao77, co77, eo77⟩ := Kd.V_slice HO_173000.out
                          subst eo77
                          go_wp2_with (first | ((with_reducible refine gate_callee (f := 15) rfl ?_); refine goesL_ (some 87) rfl rfl Try.func15 (by kernel_rfl) rfl #[.agg #[.slice Ao77 x173000_4.length co77, .int .i64 x173001_4]] rfl (by (try simp only [List.map_toArray, List.map_cons, List.map_nil]); first | done | rfl | (simp only [List.length_drop, List.length_take]; rfl)) ?_; (with_reducible refine (draw_Drawn.calls k4 _ _ x173000_4 x173001_4 t191 _ ?side1 ?side2 A75.out).mono ?_); (case side1 => repeat (first | exact (Kd.V_reads' HO_173000.out).2.2 | (with_reducible refine Kd.C_alloc ?_ _) | (with_reducible refine Kd.C_drewN ?_ _) | (with_reducible refine Kd.C_drew ?_))); (case side2 => exact (Kd.V_reads' HO_173000.out).2.1); rintro e w78 ⟨v192, rfl, ho0, hb⟩; refine ⟨_, rfl, ?_⟩; have n0_ := Aside0.mk (Kd.V_elder' (by (with_reducible repeat (first | apply Kd.V_alloc | apply Kd.V_drewN | apply Kd.V_drew)); exact HO_0.out) (Kd.R_base ho0) hb); have n1_ := Aside0.mk (Kd.R_elder' (by (with_reducible repeat (first | apply Kd.R_alloc | apply Kd.R_drewN | apply Kd.R_drew)); exact HO_9.out) (Kd.R_base ho0) hb); have n2_ := Aside0.mk (Kd.R_elder' (by (with_reducible repeat (first | apply Kd.R_alloc | apply Kd.R_drewN | apply Kd.R_drew)); exact HO_10.out) (Kd.R_base ho0) hb); have n3_ := Aside0.mk (Kd.V_elder' (by (with_reducible repeat (first | apply Kd.V_alloc | apply Kd.V_drewN | apply Kd.V_drew)); exact HO_173000.out) (Kd.R_base ho0) hb); have n4_ := Aside0.mk (Kd.R_lower (Kd.R_new' (Kd.R_new' (Kd.R_newM (M := fun k_ => (w.heap.size ≤ k_)) ho0 (below_size (by repeat (first | (with_reducible first | exact HB.out | apply below_alloc | apply pw_below_drewN | apply below_drew1 | refine below_set ?_ GE172.out) | exact HB.out))) (fun k_ h_ => h_)) (Kd.R_lt (by (with_reducible repeat (first | apply Kd.R_alloc | apply Kd.R_drewN | apply Kd.R_drew)); exact HO_9.out))) (Kd.R_lt (by (with_reducible repeat (first | apply Kd.R_alloc | apply Kd.R_drewN | apply Kd.R_drew)); exact HO_10.out))) (below_size (by repeat (first | (with_reducible first | exact HB.out | apply below_alloc | apply pw_below_drewN | apply below_drew1 | refine below_set ?_ GE172.out) | exact HB.out)))); have n5_ := Aside0.mk (blk_below (g := gb172) (o := .cells #[.slice Ao77 x173000_4.length co77, .int .i64 x173001_4] 24 (0, 0)) (by (with_reducible repeat (first | refine blk_drewN ?_ _ | refine blk_drew ?_ | refine blk_alloc ?_ _)); exact BK172.out) hb); have n6_ := Aside0.mk (below_step (by repeat (first | (with_reducible first | exact HB.out | apply below_alloc | apply pw_below_drewN | apply below_drew1 | refine below_set ?_ GE172.out) | exact HB.out)) hb); clear HO_0; clear HO_9; clear HO_10; clear HO_173000; clear BK172; clear HB; have HO_0 := n0_; have HO_9 := n1_; have HO_10 := n2_; have HO_173000 := n3_; have HO193 := n4_; have BK172 := n5_; have HB := n6_; clear n0_ n1_ n2_ n3_ n4_ n5_ n6_; (try clear hb); (try clear hb2); (try clear hk); (try clear hi); (try clear ho0)))
                          go_loopg [15, 16] k4 (fun kq v15 v16 w' => ∃ (x15_5 : Bool) (x16_5 : Int), v15 = .bool x15_5 ∧ v16 = .int .i64 x16_5 ∧ Aside0 (chamberlainlaw04_DrawOnce.l2 kq l0 t178 t181 t191 x15_5 x16_5 = some r) ∧ Aside0 (kq ≤ k4) ∧ Aside0 (Kd.V (Kd.int .u32) 27 w' w.heap.size (fun k_ => (P0_ k_ ∨ w.heap.size ≤ k_) ∧ some k_ ≠ (v179 : Value).ownBlock ∧ some k_ ≠ (v182 : Value).ownBlock ∧ some k_ ≠ (v192 : Value).ownBlock ∧ k_ ≠ gb172) (.slice A0 l0.length c0) l0) ∧ Aside0 (Kd.R (Kd.int .u32) 27 w' w.heap.size (fun k_ => (w.heap.size ≤ k_) ∧ some k_ ≠ (v182 : Value).ownBlock ∧ some k_ ≠ (v192 : Value).ownBlock) v179 t178) ∧ Aside0 (Kd.R (Kd.int .u32) 27 w' w.heap.size (fun k_ => (w.heap.size ≤ k_) ∧ some k_ ≠ (v179 : Value).ownBlock ∧ some k_ ≠ (v192 : Value).ownBlock) v182 t181) ∧ Aside0 (Kd.R (Kd.int .u32) 27 w' w.heap.size (fun k_ => (w.heap.size ≤ k_) ∧ some k_ ≠ (v179 : Value).ownBlock ∧ some k_ ≠ (v182 : Value).ownBlock) v192 t191) ∧ Aside0 (Kd.V (Kd.int .u32) 27 w' w.heap.size (fun k_ => (P0_ k_ ∨ w.heap.size ≤ k_) ∧ some k_ ≠ (v179 : Value).ownBlock ∧ some k_ ≠ (v182 : Value).ownBlock ∧ some k_ ≠ (v192 : Value).ownBlock ∧ k_ ≠ gb172) (.slice Ao77 x173000_4.length co77) x173000_4) ∧ Aside0 (w'.heap[gb172]? = some (.cells #[(.slice Ao77 x173000_4.length co77), .int .i64 x173001_4] 24 (0, 0))) ∧ Aside0 (Below w.heap.size w w'))
                          case atStart => exact ⟨(true), (0), (by first | rfl | (simp; done) | (simp [*]; done)), (by first | rfl | (simp; done) | (simp [*]; done)), H', ⟨Nat.le_refl _⟩, ⟨by (with_reducible repeat (first | apply Kd.V_alloc | apply Kd.V_drewN | apply Kd.V_drew)); exact Kd.V_mono HO_0.out (fun _ hk => ⟨hk.1.1, ⟨hk.1.2.1, ⟨hk.1.2.2.1, ⟨hk.2, hk.1.2.2.2⟩⟩⟩⟩)⟩, ⟨by (with_reducible repeat (first | apply Kd.R_alloc | apply Kd.R_drewN | apply Kd.R_drew)); exact Kd.R_mono HO_9.out (fun _ hk => ⟨hk.1.1, ⟨hk.1.2, hk.2⟩⟩)⟩, ⟨by (with_reducible repeat (first | apply Kd.R_alloc | apply Kd.R_drewN | apply Kd.R_drew)); exact Kd.R_mono HO_10.out (fun _ hk => ⟨hk.1.1, ⟨hk.1.2, hk.2⟩⟩)⟩, ⟨by (with_reducible repeat (first | apply Kd.R_alloc | apply Kd.R_drewN | apply Kd.R_drew)); exact Kd.R_mono HO193.out (fun _ hk => ⟨hk.1.1.1, ⟨hk.1.2, hk.2⟩⟩)⟩, ⟨by (with_reducible repeat (first | apply Kd.V_alloc | apply Kd.V_drewN | apply Kd.V_drew)); exact Kd.V_mono HO_173000.out (fun _ hk => ⟨hk.1.1, ⟨hk.1.2.1, ⟨hk.1.2.2.1, ⟨hk.2, hk.1.2.2.2⟩⟩⟩⟩)⟩, ⟨by (with_reducible repeat (first | refine blk_drewN ?_ _ | refine blk_drew ?_ | refine blk_alloc ?_ _)); exact BK172.out⟩, ⟨by repeat (first | (with_reducible first | exact HB.out | apply below_alloc | apply pw_below_drewN | apply below_drew1 | refine below_set ?_ GE172.out) | exact HB.out)⟩⟩
                          case round =>
                            clear H'
                            try clear c1
                            try clear p1
                            try clear q1
                            try clear hx1
                            try clear c2
                            try clear p2
                            try clear c3
                            try clear c4
                            try clear c5
                            try clear c6
                            try clear p6
                            try clear c7
                            try clear c9
                            try clear c13
                            try clear c14
                            try clear c14b0
                            try clear c15
                            try clear p19
                            try clear q19
                            try clear hx19
                            try clear c29
                            try clear c29b0
                            try clear c29b1
                            try clear c33
                            try clear c34
                            try clear c34b0
                            try clear c36
                            try clear c36b0
                            try clear c37
                            try clear c37b0
                            try clear c38
                            try clear c38b0
                            try clear c38b1
                            try clear c39
                            try clear c39b0
                            try clear c45
                            try clear c48
                            try clear c48b0
                            try clear c48b1
                            try clear c54
                            try clear c63
                            try clear p64
                            try clear c72
                            try clear hcz13_0
                            try clear hcz13_1
                            try clear hcz16_0
                            try clear hcz16_1
                            try clear hcz20_0
                            try clear hcz20_1
                            try clear hcz24_0
                            try clear hcz24_1
                            try clear hcz27_0
                            try clear hcz27_1
                            try clear hcz40_0
                            try clear hcz40_1
                            try clear hcz46_0
                            try clear hcz46_1
                            try clear hcz49_0
                            try clear hcz49_1
                            try clear hcz55_0
                            try clear hcz55_1
                            try clear hcz57_0
                            try clear hcz57_1
                            try clear hcz58_0
                            try clear hcz58_1
                            try clear hcz64_0
                            try clear hcz64_1
                            try clear hcz66_0
                            try clear hcz66_1
                            try clear hcz67_0
                            try clear hcz67_1
                            try clear hcz73_0
                            try clear hcz73_1
                            try clear hcz76_0
                            try clear hcz76_1
                            try clear hfz13_0
                            try clear hfz13_1
                            try clear hfz16_0
                            try clear hfz16_1
                            try clear hfz20_0
                            try clear hfz20_1
                            try clear hfz24_0
                            try clear hfz24_1
                            try clear hfz27_0
                            try clear hfz27_1
                            try clear hfz40_0
                            try clear hfz40_1
                            try clear hfz46_0
                            try clear hfz46_1
                            try clear hfz49_0
                            try clear hfz49_1
                            try clear hfz55_0
                            try clear hfz55_1
                            try clear hfz57_0
                            try clear hfz57_1
                            try clear hfz58_0
                            try clear hfz58_1
                            try clear hfz64_0
                            try clear hfz64_1
                            try clear hfz66_0
                            try clear hfz66_1
                            try clear hfz67_0
                            try clear hfz67_1
                            try clear hfz73_0
                            try clear hfz73_1
                            try clear hfz76_0
                            try clear hfz76_1
                            try clear hx190_0
                            try clear p190
                            try clear p2
                            try clear p6
                            try clear q190
                            obtain ⟨x15_5, x16_5, rfl, rfl, HA, HK5, HO_0, HO_9, HO_10, HO_14, HO_173000, BK172, HB⟩ := hrel
                            cases gk with
                            | zero => exact absurd HA.out (by simp [chamberlainlaw04_DrawOnce.l2])
                            | succ k5 =>
                              have H := HA.out
                              clear HA
                              simp only [chamberlainlaw04_DrawOnce.l2] at H
                              by_cases c79 : x16_5 < (l0.length : Int)
                              · rw [if_pos c79] at H
                                have c79b0 : decide (x16_5 < (l0.length : Int)) = true := decide_eq_true c79
                                clear c79
                                by_cases c80 : x15_5 = true
                                · subst c80
                                  have H1 : (if 0 ≤ x16_5 then (chamberlainlaw04_DrawOnce.l2 k5 l0 t178 t181 t191 (decide ((rd l0 x16_5) < 1073741824)) (wrap64 (x16_5 + 1))) else (none)) = some r := by rw [if_pos rfl] at H; exact H
                                  clear H
                                  have H := H1
                                  clear H1
                                  by_cases c81 : 0 ≤ x16_5
                                  · rw [if_pos c81] at H
                                    have c81b0 : decide (0 ≤ x16_5) = true := decide_eq_true c81
                                    clear c81
                                    have H' := Aside0.mk H
                                    clear H
                                    have p194 : 0 ≤ (x16_5 : Int) := of_decide_eq_true (by first | (with_reducible assumption) | assumption)
                                    have q194 : x16_5 < (l0.length : Int) := of_decide_eq_true (by first | (with_reducible assumption) | assumption)
                                    obtain ⟨ad194, e194, hx194_0⟩ := Kd.at_int (Kd.V_reads' HO_0.out).2.2 x16_5 p194 q194
                                    cases e194
                                    replace p194 := eq_true p194
                                    replace q194 := eq_true q194
                                    go_wp2
                                    go_roundg k5
                                    case measure => have := HJ3.out; have := HK2.out; have := HJ22.out; have := HK4.out; have := HK5.out; omega
                                    case rel => exact ⟨(decide ((rd l0 x16_5) < 1073741824)), (wrap64 (x16_5 + 1)), (by first | rfl | (simp; done) | (simp [*]; done)), (by first | rfl | (simp; done) | (simp [*]; done)), H', ⟨by have := HJ3.out; have := HK2.out; have := HJ22.out; have := HK4.out; have := HK5.out; omega⟩, ⟨by (with_reducible repeat (first | apply Kd.V_alloc | apply Kd.V_drewN | apply Kd.V_drew)); exact HO_0.out⟩, ⟨by (with_reducible repeat (first | apply Kd.R_alloc | apply Kd.R_drewN | apply Kd.R_drew)); exact HO_9.out⟩, ⟨by (with_reducible repeat (first | apply Kd.R_alloc | apply Kd.R_drewN | apply Kd.R_drew)); exact HO_10.out⟩, ⟨by (with_reducible repeat (first | apply Kd.R_alloc | apply Kd.R_drewN | apply Kd.R_drew)); exact HO_14.out⟩, ⟨by (with_reducible repeat (first | apply Kd.V_alloc | apply Kd.V_drewN | apply Kd.V_drew)); exact HO_173000.out⟩, ⟨by (with_reducible repeat (first | refine blk_drewN ?_ _ | refine blk_drew ?_ | refine blk_alloc ?_ _)); exact BK172.out⟩, ⟨by repeat (first | (with_reducible first | exact HB.out | apply below_alloc | apply pw_below_drewN | apply below_drew1 | refine below_set ?_ GE172.out) | exact HB.out)⟩⟩
                                  · rw [if_neg c81] at H
                                    exact absurd H (by simp)
                                · replace c80 := Bool.eq_false_iff.mpr c80
                                  subst c80
                                  have H1 : (chamberlainlaw04_DrawOnce.l2 k5 l0 t178 t181 t191 false (wrap64 (x16_5 + 1))) = some r := by rw [if_neg (show ¬ (false = true) by decide)] at H; exact H
                                  clear H
                                  have H := H1
                                  clear H1
                                  have H' := Aside0.mk H
                                  clear H
                                  go_wp2
                                  go_roundg k5
                                  case measure => have := HJ3.out; have := HK2.out; have := HJ22.out; have := HK4.out; have := HK5.out; omega
                                  case rel => exact ⟨(false), (wrap64 (x16_5 + 1)), (by first | rfl | (simp; done) | (simp [*]; done)), (by first | rfl | (simp; done) | (simp [*]; done)), H', ⟨by have := HJ3.out; have := HK2.out; have := HJ22.out; have := HK4.out; have := HK5.out; omega⟩, ⟨by (with_reducible repeat (first | apply Kd.V_alloc | apply Kd.V_drewN | apply Kd.V_drew)); exact HO_0.out⟩, ⟨by (with_reducible repeat (first | apply Kd.R_alloc | apply Kd.R_drewN | apply Kd.R_drew)); exact HO_9.out⟩, ⟨by (with_reducible repeat (first | apply Kd.R_alloc | apply Kd.R_drewN | apply Kd.R_drew)); exact HO_10.out⟩, ⟨by (with_reducible repeat (first | apply Kd.R_alloc | apply Kd.R_drewN | apply Kd.R_drew)); exact HO_14.out⟩, ⟨by (with_reducible repeat (first | apply Kd.V_alloc | apply Kd.V_drewN | apply Kd.V_drew)); exact HO_173000.out⟩, ⟨by (with_reducible repeat (first | refine blk_drewN ?_ _ | refine blk_drew ?_ | refine blk_alloc ?_ _)); exact BK172.out⟩, ⟨by repeat (first | (with_reducible first | exact HB.out | apply below_alloc | apply pw_below_drewN | apply below_drew1 | refine below_set ?_ GE172.out) | exact HB.out)⟩⟩
                              · rw [if_neg c79] at H
                                have c79b0 : decide (x16_5 < (l0.length : Int)) = false := decide_eq_false c79
                                clear c79
                                by_cases c82 : x15_5 = true
                                · subst c82
                                  have H1 : ((chamberlainref04_Unlike.f k5 l0).bind fun t195 => (if t195 = true then ((draw_Unlike.f k5 t191).bind fun t196 => (if t196 = true then ((some (([] : List Int) : List Int)).bind fun y197 => (if y197.length + t178.length < 35184372088832 then ((some (y197 ++ t178 : List Int)).bind fun y200 => (if y200.length + t181.length < 35184372088832 then ((chamberlainref01_Same.f k5 t191 (y200 ++ t181)).bind fun t206 => (some t206)) else (none))) else (none))) else (some false))) else ((some (([] : List Int) : List Int)).bind fun y207 => (if y207.length + t178.length < 35184372088832 then ((some (y207 ++ t178 : List Int)).bind fun y210 => (if y210.length + t181.length < 35184372088832 then ((chamberlainref01_Same.f k5 t191 (y210 ++ t181)).bind fun t216 => (some t216)) else (none))) else (none))))) = some r := by rw [if_pos rfl] at H; exact H
                                  clear H
                                  have H := H1
                                  clear H1
                                  replace H := Option.bind_eq_some_iff.mp H
                                  obtain ⟨t195, A830, H⟩ := H
                                  replace H : (if t195 = true then ((draw_Unlike.f k5 t191).bind fun t196 => (if t196 = true then ((some (([] : List Int) : List Int)).bind fun y197 => (if y197.length + t178.length < 35184372088832 then ((some (y197 ++ t178 : List Int)).bind fun y200 => (if y200.length + t181.length < 35184372088832 then ((chamberlainref01_Same.f k5 t191 (y200 ++ t181)).bind fun t206 => (some t206)) else (none))) else (none))) else (some false))) else ((some (([] : List Int) : List Int)).bind fun y207 => (if y207.length + t178.length < 35184372088832 then ((some (y207 ++ t178 : List Int)).bind fun y210 => (if y210.length + t181.length < 35184372088832 then ((chamberlainref01_Same.f k5 t191 (y210 ++ t181)).bind fun t216 => (some t216)) else (none))) else (none)))) = some r := H
                                  have A83 := Aside0.mk A830
                                  clear A830
                                  by_cases c84 : t195 = true
                                  · subst c84
                                    have H1 : ((draw_Unlike.f k5 t191).bind fun t196 => (if t196 = true then ((some (([] : List Int) : List Int)).bind fun y197 => (if y197.length + t178.length < 35184372088832 then ((some (y197 ++ t178 : List Int)).bind fun y200 => (if y200.length + t181.length < 35184372088832 then ((chamberlainref01_Same.f k5 t191 (y200 ++ t181)).bind fun t206 => (some t206)) else (none))) else (none))) else (some false))) = some r := by rw [if_pos rfl] at H; exact H
                                    clear H
                                    have H := H1
                                    clear H1
                                    replace H := Option.bind_eq_some_iff.mp H
                                    obtain ⟨t196, A850, H⟩ := H
                                    replace H : (if t196 = true then ((some (([] : List Int) : List Int)).bind fun y197 => (if y197.length + t178.length < 35184372088832 then ((some (y197 ++ t178 : List Int)).bind fun y200 => (if y200.length + t181.length < 35184372088832 then ((chamberlainref01_Same.f k5 t191 (y200 ++ t181)).bind fun t206 => (some t206)) else (none))) else (none))) else (some false)) = some r := H
                                    have A85 := Aside0.mk A850
                                    clear A850
                                    by_cases c86 : t196 = true
                                    · subst c86
                                      have H1 : ((some (([] : List Int) : List Int)).bind fun y197 => (if y197.length + t178.length < 35184372088832 then ((some (y197 ++ t178 : List Int)).bind fun y200 => (if y200.length + t181.length < 35184372088832 then ((chamberlainref01_Same.f k5 t191 (y200 ++ t181)).bind fun t206 => (some t206)) else (none))) else (none))) = some r := by rw [if_pos rfl] at H; exact H
                                      clear H
                                      have H := H1
                                      clear H1
                                      obtain ⟨y197, hy197⟩ : ∃ y_ : List Int, y_ = (([] : List Int)) := ⟨_, rfl⟩
                                      replace H : (if y197.length + t178.length < 35184372088832 then ((some (y197 ++ t178 : List Int)).bind fun y200 => (if y200.length + t181.length < 35184372088832 then ((chamberlainref01_Same.f k5 t191 (y200 ++ t181)).bind fun t206 => (some t206)) else (none))) else (none)) = some r := by first | (rw [hy197]; with_reducible exact H) | (have H2_ := (Option.bind_some _ _).symm.trans H; rw [hy197]; with_reducible exact H2_) | (have H2_ := (Option.bind_some _ _).symm.trans H; with_reducible exact H2_) | with_reducible exact H | (rw [hy197]; exact H) | exact H
                                      have Ny197 := Aside0.mk hy197
                                      clear hy197
                                      by_cases c87 : y197.length + t178.length < 35184372088832
                                      · rw [if_pos c87] at H
                                        have LMc87 := Aside0.mk c87
                                        clear c87
                                        obtain ⟨y200, hy200⟩ : ∃ y_ : List Int, y_ = (y197 ++ t178) := ⟨_, rfl⟩
                                        replace H : (if y200.length + t181.length < 35184372088832 then ((chamberlainref01_Same.f k5 t191 (y200 ++ t181)).bind fun t206 => (some t206)) else (none)) = some r := by first | (rw [hy200]; with_reducible exact H) | (have H2_ := (Option.bind_some _ _).symm.trans H; rw [hy200]; with_reducible exact H2_) | (have H2_ := (Option.bind_some _ _).symm.trans H; with_reducible exact H2_) | with_reducible exact H | (rw [hy200]; exact H) | exact H
                                        have Ny200 := Aside0.mk hy200
                                        clear hy200
                                        by_cases c88 : y200.length + t181.length < 35184372088832
                                        · rw [if_pos c88] at H
                                          have LMc88 := Aside0.mk c88
                                          clear c88
                                          obtain ⟨y203, hy203⟩ : ∃ y_ : List Int, y_ = (y200 ++ t181) := ⟨_, rfl⟩
                                          replace H : ((chamberlainref01_Same.f k5 t191 y203).bind fun t206 => (some t206)) = some r := by first | (rw [hy203]; with_reducible exact H) | (have H2_ := (Option.bind_some _ _).symm.trans H; rw [hy203]; with_reducible exact H2_) | (have H2_ := (Option.bind_some _ _).symm.trans H; with_reducible exact H2_) | with_reducible exact H | (rw [hy203]; exact H) | exact H
                                          have Ny203 := Aside0.mk hy203
                                          clear hy203
                                          replace H := Option.bind_eq_some_iff.mp H
                                          obtain ⟨t206, A890, H⟩ := H
                                          replace H : (some t206) = some r := H
                                          have A89 := Aside0.mk A890
                                          clear A890
                                          obtain rfl := Option.some.inj H
                                          go_wp2_with (first | (go_at_call 17; (with_reducible refine (chamberlainref04_Unlike.calls k5 _ _ l0 true _ ?side1 ?side2 A83.out).mono ?_); (case side1 => repeat (first | exact (Kd.V_reads' HO_0.out).2.2 | (with_reducible refine Kd.C_alloc ?_ _) | (with_reducible refine Kd.C_drewN ?_ _) | (with_reducible refine Kd.C_drew ?_))); (case side2 => exact (Kd.V_reads' HO_0.out).2.1); rintro e w' ⟨rfl, ⟨nd, rfl⟩⟩; obtain ⟨Ao90, co90, eo90⟩ := Kd.R_slice HO_14.out; subst eo90) | (go_at_call 16; (with_reducible refine (draw_Unlike.calls k5 (fun k_ => some k_ = (.slice Ao90 t191.length co90 : Value).ownBlock) _ _ t191 true _ ?side1 A85.out).mono ?_); (case side1 => exact Kd.R_V (Kd.R_tight rfl (Kd.R_types (HO_14.out) BK172.out (by decide)))); rintro e w91 ⟨rfl, hb⟩; have n0_ := Aside0.mk (Kd.V_below (by (with_reducible repeat (first | apply Kd.V_alloc | apply Kd.V_drewN | apply Kd.V_drew)); exact HO_0.out) hb); have n1_ := Aside0.mk (Kd.R_below (by (with_reducible repeat (first | apply Kd.R_alloc | apply Kd.R_drewN | apply Kd.R_drew)); exact HO_9.out) hb); have n2_ := Aside0.mk (Kd.R_below (by (with_reducible repeat (first | apply Kd.R_alloc | apply Kd.R_drewN | apply Kd.R_drew)); exact HO_10.out) hb); have n3_ := Aside0.mk (Kd.R_below (by (with_reducible repeat (first | apply Kd.R_alloc | apply Kd.R_drewN | apply Kd.R_drew)); exact HO_14.out) hb); have n4_ := Aside0.mk (Kd.V_below (by (with_reducible repeat (first | apply Kd.V_alloc | apply Kd.V_drewN | apply Kd.V_drew)); exact HO_173000.out) hb); have n5_ := Aside0.mk (blk_below (g := gb172) (o := .cells #[.slice Ao77 x173000_4.length co77, .int .i64 x173001_4] 24 (0, 0)) (by (with_reducible repeat (first | refine blk_drewN ?_ _ | refine blk_drew ?_ | refine blk_alloc ?_ _)); exact BK172.out) hb); have n6_ := Aside0.mk (below_step (by repeat (first | (with_reducible first | exact HB.out | apply below_alloc | apply pw_below_drewN | apply below_drew1 | refine below_set ?_ GE172.out) | exact HB.out)) hb); clear HO_0; clear HO_9; clear HO_10; clear HO_14; clear HO_173000; clear BK172; clear HB; have HO_0 := n0_; have HO_9 := n1_; have HO_10 := n2_; have HO_14 := n3_; have HO_173000 := n4_; have BK172 := n5_; have HB := n6_; clear n0_ n1_ n2_ n3_ n4_ n5_ n6_; (try clear hb); (try clear hb2); (try clear hk); (try clear hi)) | ((with_reducible refine gate_dst (N := 113) rfl ?_); (try (refine gate_guard (by rfl) ?_; dsimp only)); refine Kd.R_lit (Kd.int .u32) _ 27 ?hg (N := 113) ?hd (xs := ([] : List Int)) (inner := []) (ok := fun _ => True) (okp := fun _ => True) ?hr ?hp (fun _ hk => hk) trivial (Below.refl _ _) (Nat.le_refl _) (by simp) ?_; (case hd => rfl); (case hg => rfl); (case hr => first | (go_simp; done) | (go_simp; rfl)); (case hp => exact (Reps.none _ _)); intro v198 w92 ho93 hb hg_ hnew_; clear hg_ hnew_; (first | rw [← Ny197.out] at ho93 | (simp only [Int.reduceToNat] at ho93; rw [← Ny197.out] at ho93)); have n0_ := Aside0.mk (Kd.V_elder' (by (with_reducible repeat (first | apply Kd.V_alloc | apply Kd.V_drewN | apply Kd.V_drew)); exact HO_0.out) (Kd.R_base ho93) hb); have n1_ := Aside0.mk (Kd.R_elder' (by (with_reducible repeat (first | apply Kd.R_alloc | apply Kd.R_drewN | apply Kd.R_drew)); exact HO_9.out) (Kd.R_base ho93) hb); have n2_ := Aside0.mk (Kd.R_elder' (by (with_reducible repeat (first | apply Kd.R_alloc | apply Kd.R_drewN | apply Kd.R_drew)); exact HO_10.out) (Kd.R_base ho93) hb); have n3_ := Aside0.mk (Kd.R_elder' (by (with_reducible repeat (first | apply Kd.R_alloc | apply Kd.R_drewN | apply Kd.R_drew)); exact HO_14.out) (Kd.R_base ho93) hb); have n4_ := Aside0.mk (Kd.V_elder' (by (with_reducible repeat (first | apply Kd.V_alloc | apply Kd.V_drewN | apply Kd.V_drew)); exact HO_173000.out) (Kd.R_base ho93) hb); have n5_ := Aside0.mk (Kd.R_lower (Kd.R_new' (Kd.R_new' (Kd.R_new' (Kd.R_newM (M := fun k_ => (w.heap.size ≤ k_)) ho93 (below_size (by repeat (first | (with_reducible first | exact HB.out | apply below_alloc | apply pw_below_drewN | apply below_drew1 | refine below_set ?_ GE172.out) | exact HB.out))) (fun k_ h_ => h_)) (Kd.R_lt (by (with_reducible repeat (first | apply Kd.R_alloc | apply Kd.R_drewN | apply Kd.R_drew)); exact HO_9.out))) (Kd.R_lt (by (with_reducible repeat (first | apply Kd.R_alloc | apply Kd.R_drewN | apply Kd.R_drew)); exact HO_10.out))) (Kd.R_lt (by (with_reducible repeat (first | apply Kd.R_alloc | apply Kd.R_drewN | apply Kd.R_drew)); exact HO_14.out))) (below_size (by repeat (first | (with_reducible first | exact HB.out | apply below_alloc | apply pw_below_drewN | apply below_drew1 | refine below_set ?_ GE172.out) | exact HB.out)))); have n6_ := Aside0.mk (blk_below (g := gb172) (o := .cells #[.slice Ao77 x173000_4.length co77, .int .i64 x173001_4] 24 (0, 0)) (by (with_reducible repeat (first | refine blk_drewN ?_ _ | refine blk_drew ?_ | refine blk_alloc ?_ _)); exact BK172.out) hb); have n7_ := Aside0.mk (below_step (by repeat (first | (with_reducible first | exact HB.out | apply below_alloc | apply pw_below_drewN | apply below_drew1 | refine below_set ?_ GE172.out) | exact HB.out)) hb); clear HO_0; clear HO_9; clear HO_10; clear HO_14; clear HO_173000; clear BK172; clear HB; have HO_0 := n0_; have HO_9 := n1_; have HO_10 := n2_; have HO_14 := n3_; have HO_173000 := n4_; have HO199 := n5_; have BK172 := n6_; have HB := n7_; clear n0_ n1_ n2_ n3_ n4_ n5_ n6_ n7_; clear hb ho93; obtain ⟨Ao95, co95, eo95⟩ := Kd.R_slice HO_9.out; subst eo95) | ((with_reducible refine gate_builtin (b := .append) (xs := #[.tmp 113, .tmp 114]) rfl ?_); (try (refine gate_guard (by rfl) ?_; dsimp only)); at_builtin; refine Kd.R_append_rows (Kd.int .u32) (w0 := w) w.heap.size rfl (.tmp 113) (.tmp 114) 22 27 (.int .u32 0) 4 rfl Try.underlying22 info27 rfl (by decide) (by omega) v198 y197 t178 _ _ _ (fun k_ => (w.heap.size ≤ k_) ∧ some k_ ≠ (.slice Ao95 t178.length co95 : Value).ownBlock ∧ some k_ ≠ (v182 : Value).ownBlock ∧ some k_ ≠ (.slice Ao90 t191.length co90 : Value).ownBlock) (fun _ => False) rfl rfl ?aO ?aR (fun _ _ h => h) (fun _ h => h.elim) ?aF ?aB ?aS ?aL ?_; (case aR => repeat (first | exact (Kd.R_reads' HO_9.out).2.2 | (with_reducible refine Kd.C_alloc ?_ _) | (with_reducible refine Kd.C_drewN ?_ _) | (with_reducible refine Kd.C_drew ?_))); (case aB => exact (by repeat (first | (with_reducible first | exact HB.out | apply below_alloc | apply pw_below_drewN | apply below_drew1 | refine below_set ?_ GE172.out) | exact HB.out))); (case aF => exact (fun k_ hk => ⟨(Nat.le_trans (below_size (by repeat (first | (with_reducible first | exact HB.out | apply below_alloc | apply pw_below_drewN | apply below_drew1 | refine below_set ?_ GE172.out) | exact HB.out))) hk), Kd.fresh' (Kd.R_lt (by (with_reducible repeat (first | apply Kd.R_alloc | apply Kd.R_drewN | apply Kd.R_drew)); exact HO_9.out)) k_ hk, Kd.fresh' (Kd.R_lt (by (with_reducible repeat (first | apply Kd.R_alloc | apply Kd.R_drewN | apply Kd.R_drew)); exact HO_10.out)) k_ hk, Kd.fresh' (Kd.R_lt (by (with_reducible repeat (first | apply Kd.R_alloc | apply Kd.R_drewN | apply Kd.R_drew)); exact HO_14.out)) k_ hk⟩)); (case aO => exact (by (with_reducible repeat (first | apply Kd.R_alloc | apply Kd.R_drewN | apply Kd.R_drew)); exact Kd.R_mono HO199.out (fun _ hk => ⟨hk.1.1.1.1, ⟨hk.1.1.2, ⟨hk.1.2, hk.2⟩⟩⟩))); (case aS => exact (below_size (by repeat (first | (with_reducible first | exact HB.out | apply below_alloc | apply pw_below_drewN | apply below_drew1 | refine below_set ?_ GE172.out) | exact HB.out)))); (case aL => have := LMc87.out; omega); intro v201 w94 ho hb hg hat; rw [← Ny200.out] at ho; have n0_ := Aside0.mk (Kd.V_afterv (ok := (fun k_ => (P0_ k_ ∨ w.heap.size ≤ k_) ∧ some k_ ≠ (.slice Ao95 t178.length co95 : Value).ownBlock ∧ some k_ ≠ (v182 : Value).ownBlock ∧ some k_ ≠ (.slice Ao90 t191.length co90 : Value).ownBlock ∧ k_ ≠ gb172)) (by (with_reducible repeat (first | apply Kd.V_alloc | apply Kd.V_drewN | apply Kd.V_drew)); exact HO_0.out) hg hat); have n1_ := Aside0.mk (Kd.R_after (ok := (fun k_ => (w.heap.size ≤ k_) ∧ some k_ ≠ (v182 : Value).ownBlock ∧ some k_ ≠ (.slice Ao90 t191.length co90 : Value).ownBlock)) (by (with_reducible repeat (first | apply Kd.R_alloc | apply Kd.R_drewN | apply Kd.R_drew)); exact HO_9.out) hg hat); have n2_ := Aside0.mk (Kd.R_after (ok := (fun k_ => (w.heap.size ≤ k_) ∧ some k_ ≠ (.slice Ao95 t178.length co95 : Value).ownBlock ∧ some k_ ≠ (.slice Ao90 t191.length co90 : Value).ownBlock)) (by (with_reducible repeat (first | apply Kd.R_alloc | apply Kd.R_drewN | apply Kd.R_drew)); exact HO_10.out) hg hat); have n3_ := Aside0.mk (Kd.R_after (ok := (fun k_ => (w.heap.size ≤ k_) ∧ some k_ ≠ (.slice Ao95 t178.length co95 : Value).ownBlock ∧ some k_ ≠ (v182 : Value).ownBlock)) (by (with_reducible repeat (first | apply Kd.R_alloc | apply Kd.R_drewN | apply Kd.R_drew)); exact HO_14.out) hg hat); have n4_ := Aside0.mk (Kd.V_afterv (ok := (fun k_ => (P0_ k_ ∨ w.heap.size ≤ k_) ∧ some k_ ≠ (.slice Ao95 t178.length co95 : Value).ownBlock ∧ some k_ ≠ (v182 : Value).ownBlock ∧ some k_ ≠ (.slice Ao90 t191.length co90 : Value).ownBlock ∧ k_ ≠ gb172)) (by (with_reducible repeat (first | apply Kd.V_alloc | apply Kd.V_drewN | apply Kd.V_drew)); exact HO_173000.out) hg hat); have n5_ := Aside0.mk (blk_grown (g := gb172) (o := .cells #[.slice Ao77 x173000_4.length co77, .int .i64 x173001_4] 24 (0, 0)) (by (with_reducible repeat (first | refine blk_drewN ?_ _ | refine blk_drew ?_ | refine blk_alloc ?_ _)); exact BK172.out) hg (Kd.R_ne HO199.out BK172.out (by decide))); have n6_ := Aside0.mk (hb); have n7_ := Aside0.mk (ho); clear HO_0; clear HO_9; clear HO_10; clear HO_14; clear HO_173000; clear BK172; clear HB; clear HO199; have HO_0 := n0_; have HO_9 := n1_; have HO_10 := n2_; have HO_14 := n3_; have HO_173000 := n4_; have BK172 := n5_; have HB := n6_; have HO202 := n7_; clear n0_ n1_ n2_ n3_ n4_ n5_ n6_ n7_; clear ho hb hg hat; obtain ⟨Ao97, co97, eo97⟩ := Kd.R_slice HO_10.out; subst eo97) | ((with_reducible refine gate_builtin (b := .append) (xs := #[.tmp 115, .tmp 116]) rfl ?_); (try (refine gate_guard (by rfl) ?_; dsimp only)); at_builtin; refine Kd.R_append_rows (Kd.int .u32) (w0 := w) w.heap.size rfl (.tmp 115) (.tmp 116) 22 27 (.int .u32 0) 4 rfl Try.underlying22 info27 rfl (by decide) (by omega) v201 y200 t181 _ _ _ (fun k_ => (w.heap.size ≤ k_) ∧ some k_ ≠ (.slice Ao95 t178.length co95 : Value).ownBlock ∧ some k_ ≠ (.slice Ao97 t181.length co97 : Value).ownBlock ∧ some k_ ≠ (.slice Ao90 t191.length co90 : Value).ownBlock) (fun _ => False) rfl rfl ?aO ?aR (fun _ _ h => h) (fun _ h => h.elim) ?aF ?aB ?aS ?aL ?_; (case aR => repeat (first | exact (Kd.R_reads' HO_10.out).2.2 | (with_reducible refine Kd.C_alloc ?_ _) | (with_reducible refine Kd.C_drewN ?_ _) | (with_reducible refine Kd.C_drew ?_))); (case aB => exact (by repeat (first | (with_reducible first | exact HB.out | apply below_alloc | apply pw_below_drewN | apply below_drew1 | refine below_set ?_ GE172.out) | exact HB.out))); (case aF => exact (fun k_ hk => ⟨(Nat.le_trans (below_size (by repeat (first | (with_reducible first | exact HB.out | apply below_alloc | apply pw_below_drewN | apply below_drew1 | refine below_set ?_ GE172.out) | exact HB.out))) hk), Kd.fresh' (Kd.R_lt (by (with_reducible repeat (first | apply Kd.R_alloc | apply Kd.R_drewN | apply Kd.R_drew)); exact HO_9.out)) k_ hk, Kd.fresh' (Kd.R_lt (by (with_reducible repeat (first | apply Kd.R_alloc | apply Kd.R_drewN | apply Kd.R_drew)); exact HO_10.out)) k_ hk, Kd.fresh' (Kd.R_lt (by (with_reducible repeat (first | apply Kd.R_alloc | apply Kd.R_drewN | apply Kd.R_drew)); exact HO_14.out)) k_ hk⟩)); (case aO => exact (by (with_reducible repeat (first | apply Kd.R_alloc | apply Kd.R_drewN | apply Kd.R_drew)); exact HO202.out)); (case aS => exact (below_size (by repeat (first | (with_reducible first | exact HB.out | apply below_alloc | apply pw_below_drewN | apply below_drew1 | refine below_set ?_ GE172.out) | exact HB.out)))); (case aL => have := LMc88.out; omega); intro v204 w96 ho hb hg hat; rw [← Ny203.out] at ho; have n0_ := Aside0.mk (Kd.V_afterv (ok := (fun k_ => (P0_ k_ ∨ w.heap.size ≤ k_) ∧ some k_ ≠ (.slice Ao95 t178.length co95 : Value).ownBlock ∧ some k_ ≠ (.slice Ao97 t181.length co97 : Value).ownBlock ∧ some k_ ≠ (.slice Ao90 t191.length co90 : Value).ownBlock ∧ k_ ≠ gb172)) (by (with_reducible repeat (first | apply Kd.V_alloc | apply Kd.V_drewN | apply Kd.V_drew)); exact HO_0.out) hg hat); have n1_ := Aside0.mk (Kd.R_after (ok := (fun k_ => (w.heap.size ≤ k_) ∧ some k_ ≠ (.slice Ao97 t181.length co97 : Value).ownBlock ∧ some k_ ≠ (.slice Ao90 t191.length co90 : Value).ownBlock)) (by (with_reducible repeat (first | apply Kd.R_alloc | apply Kd.R_drewN | apply Kd.R_drew)); exact HO_9.out) hg hat); have n2_ := Aside0.mk (Kd.R_after (ok := (fun k_ => (w.heap.size ≤ k_) ∧ some k_ ≠ (.slice Ao95 t178.length co95 : Value).ownBlock ∧ some k_ ≠ (.slice Ao90 t191.length co90 : Value).ownBlock)) (by (with_reducible repeat (first | apply Kd.R_alloc | apply Kd.R_drewN | apply Kd.R_drew)); exact HO_10.out) hg hat); have n3_ := Aside0.mk (Kd.R_after (ok := (fun k_ => (w.heap.size ≤ k_) ∧ some k_ ≠ (.slice Ao95 t178.length co95 : Value).ownBlock ∧ some k_ ≠ (.slice Ao97 t181.length co97 : Value).ownBlock)) (by (with_reducible repeat (first | apply Kd.R_alloc | apply Kd.R_drewN | apply Kd.R_drew)); exact HO_14.out) hg hat); have n4_ := Aside0.mk (Kd.V_afterv (ok := (fun k_ => (P0_ k_ ∨ w.heap.size ≤ k_) ∧ some k_ ≠ (.slice Ao95 t178.length co95 : Value).ownBlock ∧ some k_ ≠ (.slice Ao97 t181.length co97 : Value).ownBlock ∧ some k_ ≠ (.slice Ao90 t191.length co90 : Value).ownBlock ∧ k_ ≠ gb172)) (by (with_reducible repeat (first | apply Kd.V_alloc | apply Kd.V_drewN | apply Kd.V_drew)); exact HO_173000.out) hg hat); have n5_ := Aside0.mk (blk_grown (g := gb172) (o := .cells #[.slice Ao77 x173000_4.length co77, .int .i64 x173001_4] 24 (0, 0)) (by (with_reducible repeat (first | refine blk_drewN ?_ _ | refine blk_drew ?_ | refine blk_alloc ?_ _)); exact BK172.out) hg (Kd.R_ne HO202.out BK172.out (by decide))); have n6_ := Aside0.mk (hb); have n7_ := Aside0.mk (ho); clear HO_0; clear HO_9; clear HO_10; clear HO_14; clear HO_173000; clear BK172; clear HB; clear HO202; have HO_0 := n0_; have HO_9 := n1_; have HO_10 := n2_; have HO_14 := n3_; have HO_173000 := n4_; have BK172 := n5_; have HB := n6_; have HO205 := n7_; clear n0_ n1_ n2_ n3_ n4_ n5_ n6_ n7_; clear ho hb hg hat; obtain ⟨Ao98, co98, eo98⟩ := Kd.R_slice HO205.out; subst eo98) | ((with_reducible refine gate_callee (f := 12) rfl ?_); refine goesL_ (some 118) rfl rfl Try.func12 (by kernel_rfl) rfl #[.slice Ao90 t191.length co90, .slice Ao98 y203.length co98] rfl (by (try simp only [List.map_toArray, List.map_cons, List.map_nil]); first | done | rfl | (simp only [List.length_drop, List.length_take]; rfl)) ?_; (with_reducible refine (chamberlainref01_Same.calls k5 _ _ t191 _ _ y203 t206 _ ?side1 ?side2 ?side3 ?side4 A89.out).mono ?_); (case side1 => repeat (first | exact (Kd.R_reads' HO_14.out).2.2 | (with_reducible refine Kd.C_alloc ?_ _) | (with_reducible refine Kd.C_drewN ?_ _) | (with_reducible refine Kd.C_drew ?_))); (case side2 => exact (Kd.R_reads' HO_14.out).2.1); (case side3 => repeat (first | exact (Kd.R_reads' HO205.out).2.2 | (with_reducible refine Kd.C_alloc ?_ _) | (with_reducible refine Kd.C_drewN ?_ _) | (with_reducible refine Kd.C_drew ?_))); (case side4 => exact (Kd.R_reads' HO205.out).2.1); rintro e w' ⟨rfl, ⟨nd, rfl⟩⟩; refine ⟨_, rfl, ?_⟩))
                                          go_ret
                                          exact ⟨by first | rfl | (simp [errW_none, errW_some] <;> rfl) | (simp [*, errW_none, errW_some] <;> rfl), by repeat (first | (with_reducible first | exact HB.out | apply below_alloc | apply pw_below_drewN | apply below_drew1 | refine below_set ?_ GE172.out) | exact HB.out)⟩
                                        · rw [if_neg c88] at H
                                          exact absurd H (by simp)
                                      · rw [if_neg c87] at H
                                        exact absurd H (by simp)
                                    · replace c86 := Bool.eq_false_iff.mpr c86
                                      subst c86
                                      have H1 : (some false) = some r := by rw [if_neg (show ¬ (false = true) by decide)] at H; exact H
                                      clear H
                                      have H := H1
                                      clear H1
                                      exact absurd (hT.out.symm.trans (Option.some.inj H).symm) (by decide)
                                  · replace c84 := Bool.eq_false_iff.mpr c84
                                    subst c84
                                    have H1 : ((some (([] : List Int) : List Int)).bind fun y207 => (if y207.length + t178.length < 35184372088832 then ((some (y207 ++ t178 : List Int)).bind fun y210 => (if y210.length + t181.length < 35184372088832 then ((chamberlainref01_Same.f k5 t191 (y210 ++ t181)).bind fun t216 => (some t216)) else (none))) else (none))) = some r := by rw [if_neg (show ¬ (false = true) by decide)] at H; exact H
                                    clear H
                                    have H := H1
                                    clear H1
                                    obtain ⟨y207, hy207⟩ : ∃ y_ : List Int, y_ = (([] : List Int)) := ⟨_, rfl⟩
                                    replace H : (if y207.length + t178.length < 35184372088832 then ((some (y207 ++ t178 : List Int)).bind fun y210 => (if y210.length + t181.length < 35184372088832 then ((chamberlainref01_Same.f k5 t191 (y210 ++ t181)).bind fun t216 => (some t216)) else (none))) else (none)) = some r := by first | (rw [hy207]; with_reducible exact H) | (have H2_ := (Option.bind_some _ _).symm.trans H; rw [hy207]; with_reducible exact H2_) | (have H2_ := (Option.bind_some _ _).symm.trans H; with_reducible exact H2_) | with_reducible exact H | (rw [hy207]; exact H) | exact H
                                    have Ny207 := Aside0.mk hy207
                                    clear hy207
                                    by_cases c101 : y207.length + t178.length < 35184372088832
                                    · rw [if_pos c101] at H
                                      have LMc101 := Aside0.mk c101
                                      clear c101
                                      obtain ⟨y210, hy210⟩ : ∃ y_ : List Int, y_ = (y207 ++ t178) := ⟨_, rfl⟩
                                      replace H : (if y210.length + t181.length < 35184372088832 then ((chamberlainref01_Same.f k5 t191 (y210 ++ t181)).bind fun t216 => (some t216)) else (none)) = some r := by first | (rw [hy210]; with_reducible exact H) | (have H2_ := (Option.bind_some _ _).symm.trans H; rw [hy210]; with_reducible exact H2_) | (have H2_ := (Option.bind_some _ _).symm.trans H; with_reducible exact H2_) | with_reducible exact H | (rw [hy210]; exact H) | exact H
                                      have Ny210 := Aside0.mk hy210
                                      clear hy210
                                      by_cases c102 : y210.length + t181.length < 35184372088832
                                      · rw [if_pos c102] at H
                                        have LMc102 := Aside0.mk c102
                                        clear c102
                                        obtain ⟨y213, hy213⟩ : ∃ y_ : List Int, y_ = (y210 ++ t181) := ⟨_, rfl⟩
                                        replace H : ((chamberlainref01_Same.f k5 t191 y213).bind fun t216 => (some t216)) = some r := by first | (rw [hy213]; with_reducible exact H) | (have H2_ := (Option.bind_some _ _).symm.trans H; rw [hy213]; with_reducible exact H2_) | (have H2_ := (Option.bind_some _ _).symm.trans H; with_reducible exact H2_) | with_reducible exact H | (rw [hy213]; exact H) | exact H
                                        have Ny213 := Aside0.mk hy213
                                        clear hy213
                                        replace H := Option.bind_eq_some_iff.mp H
                                        obtain ⟨t216, A1030, H⟩ := H
                                        replace H : (some t216) = some r := H
                                        have A103 := Aside0.mk A1030
                                        clear A1030
                                        obtain rfl := Option.some.inj H
                                        go_wp2_with (first | (go_at_call 17; (with_reducible refine (chamberlainref04_Unlike.calls k5 _ _ l0 false _ ?side1 ?side2 A83.out).mono ?_); (case side1 => repeat (first | exact (Kd.V_reads' HO_0.out).2.2 | (with_reducible refine Kd.C_alloc ?_ _) | (with_reducible refine Kd.C_drewN ?_ _) | (with_reducible refine Kd.C_drew ?_))); (case side2 => exact (Kd.V_reads' HO_0.out).2.1); rintro e w' ⟨rfl, ⟨nd, rfl⟩⟩) | ((with_reducible refine gate_dst (N := 113) rfl ?_); (try (refine gate_guard (by rfl) ?_; dsimp only)); refine Kd.R_lit (Kd.int .u32) _ 27 ?hg (N := 113) ?hd (xs := ([] : List Int)) (inner := []) (ok := fun _ => True) (okp := fun _ => True) ?hr ?hp (fun _ hk => hk) trivial (Below.refl _ _) (Nat.le_refl _) (by simp) ?_; (case hd => rfl); (case hg => rfl); (case hr => first | (go_simp; done) | (go_simp; rfl)); (case hp => exact (Reps.none _ _)); intro v208 w104 ho105 hb hg_ hnew_; clear hg_ hnew_; (first | rw [← Ny207.out] at ho105 | (simp only [Int.reduceToNat] at ho105; rw [← Ny207.out] at ho105)); have n0_ := Aside0.mk (Kd.V_elder' (by (with_reducible repeat (first | apply Kd.V_alloc | apply Kd.V_drewN | apply Kd.V_drew)); exact HO_0.out) (Kd.R_base ho105) hb); have n1_ := Aside0.mk (Kd.R_elder' (by (with_reducible repeat (first | apply Kd.R_alloc | apply Kd.R_drewN | apply Kd.R_drew)); exact HO_9.out) (Kd.R_base ho105) hb); have n2_ := Aside0.mk (Kd.R_elder' (by (with_reducible repeat (first | apply Kd.R_alloc | apply Kd.R_drewN | apply Kd.R_drew)); exact HO_10.out) (Kd.R_base ho105) hb); have n3_ := Aside0.mk (Kd.R_elder' (by (with_reducible repeat (first | apply Kd.R_alloc | apply Kd.R_drewN | apply Kd.R_drew)); exact HO_14.out) (Kd.R_base ho105) hb); have n4_ := Aside0.mk (Kd.V_elder' (by (with_reducible repeat (first | apply Kd.V_alloc | apply Kd.V_drewN | apply Kd.V_drew)); exact HO_173000.out) (Kd.R_base ho105) hb); have n5_ := Aside0.mk (Kd.R_lower (Kd.R_new' (Kd.R_new' (Kd.R_new' (Kd.R_newM (M := fun k_ => (w.heap.size ≤ k_)) ho105 (below_size (by repeat (first | (with_reducible first | exact HB.out | apply below_alloc | apply pw_below_drewN | apply below_drew1 | refine below_set ?_ GE172.out) | exact HB.out))) (fun k_ h_ => h_)) (Kd.R_lt (by (with_reducible repeat (first | apply Kd.R_alloc | apply Kd.R_drewN | apply Kd.R_drew)); exact HO_9.out))) (Kd.R_lt (by (with_reducible repeat (first | apply Kd.R_alloc | apply Kd.R_drewN | apply Kd.R_drew)); exact HO_10.out))) (Kd.R_lt (by (with_reducible repeat (first | apply Kd.R_alloc | apply Kd.R_drewN | apply Kd.R_drew)); exact HO_14.out))) (below_size (by repeat (first | (with_reducible first | exact HB.out | apply below_alloc | apply pw_below_drewN | apply below_drew1 | refine below_set ?_ GE172.out) | exact HB.out)))); have n6_ := Aside0.mk (blk_below (g := gb172) (o := .cells #[.slice Ao77 x173000_4.length co77, .int .i64 x173001_4] 24 (0, 0)) (by (with_reducible repeat (first | refine blk_drewN ?_ _ | refine blk_drew ?_ | refine blk_alloc ?_ _)); exact BK172.out) hb); have n7_ := Aside0.mk (below_step (by repeat (first | (with_reducible first | exact HB.out | apply below_alloc | apply pw_below_drewN | apply below_drew1 | refine below_set ?_ GE172.out) | exact HB.out)) hb); clear HO_0; clear HO_9; clear HO_10; clear HO_14; clear HO_173000; clear BK172; clear HB; have HO_0 := n0_; have HO_9 := n1_; have HO_10 := n2_; have HO_14 := n3_; have HO_173000 := n4_; have HO209 := n5_; have BK172 := n6_; have HB := n7_; clear n0_ n1_ n2_ n3_ n4_ n5_ n6_ n7_; clear hb ho105; obtain ⟨Ao107, co107, eo107⟩ := Kd.R_slice HO_9.out; subst eo107) | ((with_reducible refine gate_builtin (b := .append) (xs := #[.tmp 113, .tmp 114]) rfl ?_); (try (refine gate_guard (by rfl) ?_; dsimp only)); at_builtin; refine Kd.R_append_rows (Kd.int .u32) (w0 := w) w.heap.size rfl (.tmp 113) (.tmp 114) 22 27 (.int .u32 0) 4 rfl Try.underlying22 info27 rfl (by decide) (by omega) v208 y207 t178 _ _ _ (fun k_ => (w.heap.size ≤ k_) ∧ some k_ ≠ (.slice Ao107 t178.length co107 : Value).ownBlock ∧ some k_ ≠ (v182 : Value).ownBlock ∧ some k_ ≠ (v192 : Value).ownBlock) (fun _ => False) rfl rfl ?aO ?aR (fun _ _ h => h) (fun _ h => h.elim) ?aF ?aB ?aS ?aL ?_; (case aR => repeat (first | exact (Kd.R_reads' HO_9.out).2.2 | (with_reducible refine Kd.C_alloc ?_ _) | (with_reducible refine Kd.C_drewN ?_ _) | (with_reducible refine Kd.C_drew ?_))); (case aB => exact (by repeat (first | (with_reducible first | exact HB.out | apply below_alloc | apply pw_below_drewN | apply below_drew1 | refine below_set ?_ GE172.out) | exact HB.out))); (case aF => exact (fun k_ hk => ⟨(Nat.le_trans (below_size (by repeat (first | (with_reducible first | exact HB.out | apply below_alloc | apply pw_below_drewN | apply below_drew1 | refine below_set ?_ GE172.out) | exact HB.out))) hk), Kd.fresh' (Kd.R_lt (by (with_reducible repeat (first | apply Kd.R_alloc | apply Kd.R_drewN | apply Kd.R_drew)); exact HO_9.out)) k_ hk, Kd.fresh' (Kd.R_lt (by (with_reducible repeat (first | apply Kd.R_alloc | apply Kd.R_drewN | apply Kd.R_drew)); exact HO_10.out)) k_ hk, Kd.fresh' (Kd.R_lt (by (with_reducible repeat (first | apply Kd.R_alloc | apply Kd.R_drewN | apply Kd.R_drew)); exact HO_14.out)) k_ hk⟩)); (case aO => exact (by (with_reducible repeat (first | apply Kd.R_alloc | apply Kd.R_drewN | apply Kd.R_drew)); exact Kd.R_mono HO209.out (fun _ hk => ⟨hk.1.1.1.1, ⟨hk.1.1.2, ⟨hk.1.2, hk.2⟩⟩⟩))); (case aS => exact (below_size (by repeat (first | (with_reducible first | exact HB.out | apply below_alloc | apply pw_below_drewN | apply below_drew1 | refine below_set ?_ GE172.out) | exact HB.out)))); (case aL => have := LMc101.out; omega); intro v211 w106 ho hb hg hat; rw [← Ny210.out] at ho; have n0_ := Aside0.mk (Kd.V_afterv (ok := (fun k_ => (P0_ k_ ∨ w.heap.size ≤ k_) ∧ some k_ ≠ (.slice Ao107 t178.length co107 : Value).ownBlock ∧ some k_ ≠ (v182 : Value).ownBlock ∧ some k_ ≠ (v192 : Value).ownBlock ∧ k_ ≠ gb172)) (by (with_reducible repeat (first | apply Kd.V_alloc | apply Kd.V_drewN | apply Kd.V_drew)); exact HO_0.out) hg hat); have n1_ := Aside0.mk (Kd.R_after (ok := (fun k_ => (w.heap.size ≤ k_) ∧ some k_ ≠ (v182 : Value).ownBlock ∧ some k_ ≠ (v192 : Value).ownBlock)) (by (with_reducible repeat (first | apply Kd.R_alloc | apply Kd.R_drewN | apply Kd.R_drew)); exact HO_9.out) hg hat); have n2_ := Aside0.mk (Kd.R_after (ok := (fun k_ => (w.heap.size ≤ k_) ∧ some k_ ≠ (.slice Ao107 t178.length co107 : Value).ownBlock ∧ some k_ ≠ (v192 : Value).ownBlock)) (by (with_reducible repeat (first | apply Kd.R_alloc | apply Kd.R_drewN | apply Kd.R_drew)); exact HO_10.out) hg hat); have n3_ := Aside0.mk (Kd.R_after (ok := (fun k_ => (w.heap.size ≤ k_) ∧ some k_ ≠ (.slice Ao107 t178.length co107 : Value).ownBlock ∧ some k_ ≠ (v182 : Value).ownBlock)) (by (with_reducible repeat (first | apply Kd.R_alloc | apply Kd.R_drewN | apply Kd.R_drew)); exact HO_14.out) hg hat); have n4_ := Aside0.mk (Kd.V_afterv (ok := (fun k_ => (P0_ k_ ∨ w.heap.size ≤ k_) ∧ some k_ ≠ (.slice Ao107 t178.length co107 : Value).ownBlock ∧ some k_ ≠ (v182 : Value).ownBlock ∧ some k_ ≠ (v192 : Value).ownBlock ∧ k_ ≠ gb172)) (by (with_reducible repeat (first | apply Kd.V_alloc | apply Kd.V_drewN | apply Kd.V_drew)); exact HO_173000.out) hg hat); have n5_ := Aside0.mk (blk_grown (g := gb172) (o := .cells #[.slice Ao77 x173000_4.length co77, .int .i64 x173001_4] 24 (0, 0)) (by (with_reducible repeat (first | refine blk_drewN ?_ _ | refine blk_drew ?_ | refine blk_alloc ?_ _)); exact BK172.out) hg (Kd.R_ne HO209.out BK172.out (by decide))); have n6_ := Aside0.mk (hb); have n7_ := Aside0.mk (ho); clear HO_0; clear HO_9; clear HO_10; clear HO_14; clear HO_173000; clear BK172; clear HB; clear HO209; have HO_0 := n0_; have HO_9 := n1_; have HO_10 := n2_; have HO_14 := n3_; have HO_173000 := n4_; have BK172 := n5_; have HB := n6_; have HO212 := n7_; clear n0_ n1_ n2_ n3_ n4_ n5_ n6_ n7_; clear ho hb hg hat; obtain ⟨Ao109, co109, eo109⟩ := Kd.R_slice HO_10.out; subst eo109) | ((with_reducible refine gate_builtin (b := .append) (xs := #[.tmp 115, .tmp 116]) rfl ?_); (try (refine gate_guard (by rfl) ?_; dsimp only)); at_builtin; refine Kd.R_append_rows (Kd.int .u32) (w0 := w) w.heap.size rfl (.tmp 115) (.tmp 116) 22 27 (.int .u32 0) 4 rfl Try.underlying22 info27 rfl (by decide) (by omega) v211 y210 t181 _ _ _ (fun k_ => (w.heap.size ≤ k_) ∧ some k_ ≠ (.slice Ao107 t178.length co107 : Value).ownBlock ∧ some k_ ≠ (.slice Ao109 t181.length co109 : Value).ownBlock ∧ some k_ ≠ (v192 : Value).ownBlock) (fun _ => False) rfl rfl ?aO ?aR (fun _ _ h => h) (fun _ h => h.elim) ?aF ?aB ?aS ?aL ?_; (case aR => repeat (first | exact (Kd.R_reads' HO_10.out).2.2 | (with_reducible refine Kd.C_alloc ?_ _) | (with_reducible refine Kd.C_drewN ?_ _) | (with_reducible refine Kd.C_drew ?_))); (case aB => exact (by repeat (first | (with_reducible first | exact HB.out | apply below_alloc | apply pw_below_drewN | apply below_drew1 | refine below_set ?_ GE172.out) | exact HB.out))); (case aF => exact (fun k_ hk => ⟨(Nat.le_trans (below_size (by repeat (first | (with_reducible first | exact HB.out | apply below_alloc | apply pw_below_drewN | apply below_drew1 | refine below_set ?_ GE172.out) | exact HB.out))) hk), Kd.fresh' (Kd.R_lt (by (with_reducible repeat (first | apply Kd.R_alloc | apply Kd.R_drewN | apply Kd.R_drew)); exact HO_9.out)) k_ hk, Kd.fresh' (Kd.R_lt (by (with_reducible repeat (first | apply Kd.R_alloc | apply Kd.R_drewN | apply Kd.R_drew)); exact HO_10.out)) k_ hk, Kd.fresh' (Kd.R_lt (by (with_reducible repeat (first | apply Kd.R_alloc | apply Kd.R_drewN | apply Kd.R_drew)); exact HO_14.out)) k_ hk⟩)); (case aO => exact (by (with_reducible repeat (first | apply Kd.R_alloc | apply Kd.R_drewN | apply Kd.R_drew)); exact HO212.out)); (case aS => exact (below_size (by repeat (first | (with_reducible first | exact HB.out | apply below_alloc | apply pw_below_drewN | apply below_drew1 | refine below_set ?_ GE172.out) | exact HB.out)))); (case aL => have := LMc102.out; omega); intro v214 w108 ho hb hg hat; rw [← Ny213.out] at ho; have n0_ := Aside0.mk (Kd.V_afterv (ok := (fun k_ => (P0_ k_ ∨ w.heap.size ≤ k_) ∧ some k_ ≠ (.slice Ao107 t178.length co107 : Value).ownBlock ∧ some k_ ≠ (.slice Ao109 t181.length co109 : Value).ownBlock ∧ some k_ ≠ (v192 : Value).ownBlock ∧ k_ ≠ gb172)) (by (with_reducible repeat (first | apply Kd.V_alloc | apply Kd.V_drewN | apply Kd.V_drew)); exact HO_0.out) hg hat); have n1_ := Aside0.mk (Kd.R_after (ok := (fun k_ => (w.heap.size ≤ k_) ∧ some k_ ≠ (.slice Ao109 t181.length co109 : Value).ownBlock ∧ some k_ ≠ (v192 : Value).ownBlock)) (by (with_reducible repeat (first | apply Kd.R_alloc | apply Kd.R_drewN | apply Kd.R_drew)); exact HO_9.out) hg hat); have n2_ := Aside0.mk (Kd.R_after (ok := (fun k_ => (w.heap.size ≤ k_) ∧ some k_ ≠ (.slice Ao107 t178.length co107 : Value).ownBlock ∧ some k_ ≠ (v192 : Value).ownBlock)) (by (with_reducible repeat (first | apply Kd.R_alloc | apply Kd.R_drewN | apply Kd.R_drew)); exact HO_10.out) hg hat); have n3_ := Aside0.mk (Kd.R_after (ok := (fun k_ => (w.heap.size ≤ k_) ∧ some k_ ≠ (.slice Ao107 t178.length co107 : Value).ownBlock ∧ some k_ ≠ (.slice Ao109 t181.length co109 : Value).ownBlock)) (by (with_reducible repeat (first | apply Kd.R_alloc | apply Kd.R_drewN | apply Kd.R_drew)); exact HO_14.out) hg hat); have n4_ := Aside0.mk (Kd.V_afterv (ok := (fun k_ => (P0_ k_ ∨ w.heap.size ≤ k_) ∧ some k_ ≠ (.slice Ao107 t178.length co107 : Value).ownBlock ∧ some k_ ≠ (.slice Ao109 t181.length co109 : Value).ownBlock ∧ some k_ ≠ (v192 : Value).ownBlock ∧ k_ ≠ gb172)) (by (with_reducible repeat (first | apply Kd.V_alloc | apply Kd.V_drewN | apply Kd.V_drew)); exact HO_173000.out) hg hat); have n5_ := Aside0.mk (blk_grown (g := gb172) (o := .cells #[.slice Ao77 x173000_4.length co77, .int .i64 x173001_4] 24 (0, 0)) (by (with_reducible repeat (first | refine blk_drewN ?_ _ | refine blk_drew ?_ | refine blk_alloc ?_ _)); exact BK172.out) hg (Kd.R_ne HO212.out BK172.out (by decide))); have n6_ := Aside0.mk (hb); have n7_ := Aside0.mk (ho); clear HO_0; clear HO_9; clear HO_10; clear HO_14; clear HO_173000; clear BK172; clear HB; clear HO212; have HO_0 := n0_; have HO_9 := n1_; have HO_10 := n2_; have HO_14 := n3_; have HO_173000 := n4_; have BK172 := n5_; have HB := n6_; have HO215 := n7_; clear n0_ n1_ n2_ n3_ n4_ n5_ n6_ n7_; clear ho hb hg hat; obtain ⟨Ao110, co110, eo110⟩ := Kd.R_slice HO_14.out; subst eo110; obtain ⟨Ao111, co111, eo111⟩ := Kd.R_slice HO215.out; subst eo111) | ((with_reducible refine gate_callee (f := 12) rfl ?_); refine goesL_ (some 118) rfl rfl Try.func12 (by kernel_rfl) rfl #[.slice Ao110 t191.length co110, .slice Ao111 y213.length co111] rfl (by (try simp only [List.map_toArray, List.map_cons, List.map_nil]); first | done | rfl | (simp only [List.length_drop, List.length_take]; rfl)) ?_; (with_reducible refine (chamberlainref01_Same.calls k5 _ _ t191 _ _ y213 t216 _ ?side1 ?side2 ?side3 ?side4 A103.out).mono ?_); (case side1 => repeat (first | exact (Kd.R_reads' HO_14.out).2.2 | (with_reducible refine Kd.C_alloc ?_ _) | (with_reducible refine Kd.C_drewN ?_ _) | (with_reducible refine Kd.C_drew ?_))); (case side2 => exact (Kd.R_reads' HO_14.out).2.1); (case side3 => repeat (first | exact (Kd.R_reads' HO215.out).2.2 | (with_reducible refine Kd.C_alloc ?_ _) | (with_reducible refine Kd.C_drewN ?_ _) | (with_reducible refine Kd.C_drew ?_))); (case side4 => exact (Kd.R_reads' HO215.out).2.1); rintro e w' ⟨rfl, ⟨nd, rfl⟩⟩; refine ⟨_, rfl, ?_⟩))
                                        go_ret
                                        exact ⟨by first | rfl | (simp [errW_none, errW_some] <;> rfl) | (simp [*, errW_none, errW_some] <;> rfl), by repeat (first | (with_reducible first | exact HB.out | apply below_alloc | apply pw_below_drewN | apply below_drew1 | refine below_set ?_ GE172.out) | exact HB.out)⟩
                                      · rw [if_neg c102] at H
                                        exact absurd H (by simp)
                                    · rw [if_neg c101] at H
                                      exact absurd H (by simp)
                                · replace c82 := Bool.eq_false_iff.mpr c82
                                  subst c82
                                  have H1 : ((some (([] : List Int) : List Int)).bind fun y217 => (if y217.length + t178.length < 35184372088832 then ((some (y217 ++ t178 : List Int)).bind fun y220 => (if y220.length + t181.length < 35184372088832 then ((chamberlainref01_Same.f k5 t191 (y220 ++ t181)).bind fun t226 => (some t226)) else (none))) else (none))) = some r := by rw [if_neg (show ¬ (false = true) by decide)] at H; exact H
                                  clear H
                                  have H := H1
                                  clear H1
                                  obtain ⟨y217, hy217⟩ : ∃ y_ : List Int, y_ = (([] : List Int)) := ⟨_, rfl⟩
                                  replace H : (if y217.length + t178.length < 35184372088832 then ((some (y217 ++ t178 : List Int)).bind fun y220 => (if y220.length + t181.length < 35184372088832 then ((chamberlainref01_Same.f k5 t191 (y220 ++ t181)).bind fun t226 => (some t226)) else (none))) else (none)) = some r := by first | (rw [hy217]; with_reducible exact H) | (have H2_ := (Option.bind_some _ _).symm.trans H; rw [hy217]; with_reducible exact H2_) | (have H2_ := (Option.bind_some _ _).symm.trans H; with_reducible exact H2_) | with_reducible exact H | (rw [hy217]; exact H) | exact H
                                  have Ny217 := Aside0.mk hy217
                                  clear hy217
                                  by_cases c112 : y217.length + t178.length < 35184372088832
                                  · rw [if_pos c112] at H
                                    have LMc112 := Aside0.mk c112
                                    clear c112
                                    obtain ⟨y220, hy220⟩ : ∃ y_ : List Int, y_ = (y217 ++ t178) := ⟨_, rfl⟩
                                    replace H : (if y220.length + t181.length < 35184372088832 then ((chamberlainref01_Same.f k5 t191 (y220 ++ t181)).bind fun t226 => (some t226)) else (none)) = some r := by first | (rw [hy220]; with_reducible exact H) | (have H2_ := (Option.bind_some _ _).symm.trans H; rw [hy220]; with_reducible exact H2_) | (have H2_ := (Option.bind_some _ _).symm.trans H; with_reducible exact H2_) | with_reducible exact H | (rw [hy220]; exact H) | exact H
                                    have Ny220 := Aside0.mk hy220
                                    clear hy220
                                    by_cases c113 : y220.length + t181.length < 35184372088832
                                    · rw [if_pos c113] at H
                                      have LMc113 := Aside0.mk c113
                                      clear c113
                                      obtain ⟨y223, hy223⟩ : ∃ y_ : List Int, y_ = (y220 ++ t181) := ⟨_, rfl⟩
                                      replace H : ((chamberlainref01_Same.f k5 t191 y223).bind fun t226 => (some t226)) = some r := by first | (rw [hy223]; with_reducible exact H) | (have H2_ := (Option.bind_some _ _).symm.trans H; rw [hy223]; with_reducible exact H2_) | (have H2_ := (Option.bind_some _ _).symm.trans H; with_reducible exact H2_) | with_reducible exact H | (rw [hy223]; exact H) | exact H
                                      have Ny223 := Aside0.mk hy223
                                      clear hy223
                                      replace H := Option.bind_eq_some_iff.mp H
                                      obtain ⟨t226, A1140, H⟩ := H
                                      replace H : (some t226) = some r := H
                                      have A114 := Aside0.mk A1140
                                      clear A1140
                                      obtain rfl := Option.some.inj H
                                      go_wp2_with (first | ((with_reducible refine gate_dst (N := 113) rfl ?_); (try (refine gate_guard (by rfl) ?_; dsimp only)); refine Kd.R_lit (Kd.int .u32) _ 27 ?hg (N := 113) ?hd (xs := ([] : List Int)) (inner := []) (ok := fun _ => True) (okp := fun _ => True) ?hr ?hp (fun _ hk => hk) trivial (Below.refl _ _) (Nat.le_refl _) (by simp) ?_; (case hd => rfl); (case hg => rfl); (case hr => first | (go_simp; done) | (go_simp; rfl)); (case hp => exact (Reps.none _ _)); intro v218 w115 ho116 hb hg_ hnew_; clear hg_ hnew_; (first | rw [← Ny217.out] at ho116 | (simp only [Int.reduceToNat] at ho116; rw [← Ny217.out] at ho116)); have n0_ := Aside0.mk (Kd.V_elder' (by (with_reducible repeat (first | apply Kd.V_alloc | apply Kd.V_drewN | apply Kd.V_drew)); exact HO_0.out) (Kd.R_base ho116) hb); have n1_ := Aside0.mk (Kd.R_elder' (by (with_reducible repeat (first | apply Kd.R_alloc | apply Kd.R_drewN | apply Kd.R_drew)); exact HO_9.out) (Kd.R_base ho116) hb); have n2_ := Aside0.mk (Kd.R_elder' (by (with_reducible repeat (first | apply Kd.R_alloc | apply Kd.R_drewN | apply Kd.R_drew)); exact HO_10.out) (Kd.R_base ho116) hb); have n3_ := Aside0.mk (Kd.R_elder' (by (with_reducible repeat (first | apply Kd.R_alloc | apply Kd.R_drewN | apply Kd.R_drew)); exact HO_14.out) (Kd.R_base ho116) hb); have n4_ := Aside0.mk (Kd.V_elder' (by (with_reducible repeat (first | apply Kd.V_alloc | apply Kd.V_drewN | apply Kd.V_drew)); exact HO_173000.out) (Kd.R_base ho116) hb); have n5_ := Aside0.mk (Kd.R_lower (Kd.R_new' (Kd.R_new' (Kd.R_new' (Kd.R_newM (M := fun k_ => (w.heap.size ≤ k_)) ho116 (below_size (by repeat (first | (with_reducible first | exact HB.out | apply below_alloc | apply pw_below_drewN | apply below_drew1 | refine below_set ?_ GE172.out) | exact HB.out))) (fun k_ h_ => h_)) (Kd.R_lt (by (with_reducible repeat (first | apply Kd.R_alloc | apply Kd.R_drewN | apply Kd.R_drew)); exact HO_9.out))) (Kd.R_lt (by (with_reducible repeat (first | apply Kd.R_alloc | apply Kd.R_drewN | apply Kd.R_drew)); exact HO_10.out))) (Kd.R_lt (by (with_reducible repeat (first | apply Kd.R_alloc | apply Kd.R_drewN | apply Kd.R_drew)); exact HO_14.out))) (below_size (by repeat (first | (with_reducible first | exact HB.out | apply below_alloc | apply pw_below_drewN | apply below_drew1 | refine below_set ?_ GE172.out) | exact HB.out)))); have n6_ := Aside0.mk (blk_below (g := gb172) (o := .cells #[.slice Ao77 x173000_4.length co77, .int .i64 x173001_4] 24 (0, 0)) (by (with_reducible repeat (first | refine blk_drewN ?_ _ | refine blk_drew ?_ | refine blk_alloc ?_ _)); exact BK172.out) hb); have n7_ := Aside0.mk (below_step (by repeat (first | (with_reducible first | exact HB.out | apply below_alloc | apply pw_below_drewN | apply below_drew1 | refine below_set ?_ GE172.out) | exact HB.out)) hb); clear HO_0; clear HO_9; clear HO_10; clear HO_14; clear HO_173000; clear BK172; clear HB; have HO_0 := n0_; have HO_9 := n1_; have HO_10 := n2_; have HO_14 := n3_; have HO_173000 := n4_; have HO219 := n5_; have BK172 := n6_; have HB := n7_; clear n0_ n1_ n2_ n3_ n4_ n5_ n6_ n7_; clear hb ho116; obtain ⟨Ao118, co118, eo118⟩ := Kd.R_slice HO_9.out; subst eo118) | ((with_reducible refine gate_builtin (b := .append) (xs := #[.tmp 113, .tmp 114]) rfl ?_); (try (refine gate_guard (by rfl) ?_; dsimp only)); at_builtin; refine Kd.R_append_rows (Kd.int .u32) (w0 := w) w.heap.size rfl (.tmp 113) (.tmp 114) 22 27 (.int .u32 0) 4 rfl Try.underlying22 info27 rfl (by decide) (by omega) v218 y217 t178 _ _ _ (fun k_ => (w.heap.size ≤ k_) ∧ some k_ ≠ (.slice Ao118 t178.length co118 : Value).ownBlock ∧ some k_ ≠ (v182 : Value).ownBlock ∧ some k_ ≠ (v192 : Value).ownBlock) (fun _ => False) rfl rfl ?aO ?aR (fun _ _ h => h) (fun _ h => h.elim) ?aF ?aB ?aS ?aL ?_; (case aR => repeat (first | exact (Kd.R_reads' HO_9.out).2.2 | (with_reducible refine Kd.C_alloc ?_ _) | (with_reducible refine Kd.C_drewN ?_ _) | (with_reducible refine Kd.C_drew ?_))); (case aB => exact (by repeat (first | (with_reducible first | exact HB.out | apply below_alloc | apply pw_below_drewN | apply below_drew1 | refine below_set ?_ GE172.out) | exact HB.out))); (case aF => exact (fun k_ hk => ⟨(Nat.le_trans (below_size (by repeat (first | (with_reducible first | exact HB.out | apply below_alloc | apply pw_below_drewN | apply below_drew1 | refine below_set ?_ GE172.out) | exact HB.out))) hk), Kd.fresh' (Kd.R_lt (by (with_reducible repeat (first | apply Kd.R_alloc | apply Kd.R_drewN | apply Kd.R_drew)); exact HO_9.out)) k_ hk, Kd.fresh' (Kd.R_lt (by (with_reducible repeat (first | apply Kd.R_alloc | apply Kd.R_drewN | apply Kd.R_drew)); exact HO_10.out)) k_ hk, Kd.fresh' (Kd.R_lt (by (with_reducible repeat (first | apply Kd.R_alloc | apply Kd.R_drewN | apply Kd.R_drew)); exact HO_14.out)) k_ hk⟩)); (case aO => exact (by (with_reducible repeat (first | apply Kd.R_alloc | apply Kd.R_drewN | apply Kd.R_drew)); exact Kd.R_mono HO219.out (fun _ hk => ⟨hk.1.1.1.1, ⟨hk.1.1.2, ⟨hk.1.2, hk.2⟩⟩⟩))); (case aS => exact (below_size (by repeat (first | (with_reducible first | exact HB.out | apply below_alloc | apply pw_below_drewN | apply below_drew1 | refine below_set ?_ GE172.out) | exact HB.out)))); (case aL => have := LMc112.out; omega); intro v221 w117 ho hb hg hat; rw [← Ny220.out] at ho; have n0_ := Aside0.mk (Kd.V_afterv (ok := (fun k_ => (P0_ k_ ∨ w.heap.size ≤ k_) ∧ some k_ ≠ (.slice Ao118 t178.length co118 : Value).ownBlock ∧ some k_ ≠ (v182 : Value).ownBlock ∧ some k_ ≠ (v192 : Value).ownBlock ∧ k_ ≠ gb172)) (by (with_reducible repeat (first | apply Kd.V_alloc | apply Kd.V_drewN | apply Kd.V_drew)); exact HO_0.out) hg hat); have n1_ := Aside0.mk (Kd.R_after (ok := (fun k_ => (w.heap.size ≤ k_) ∧ some k_ ≠ (v182 : Value).ownBlock ∧ some k_ ≠ (v192 : Value).ownBlock)) (by (with_reducible repeat (first | apply Kd.R_alloc | apply Kd.R_drewN | apply Kd.R_drew)); exact HO_9.out) hg hat); have n2_ := Aside0.mk (Kd.R_after (ok := (fun k_ => (w.heap.size ≤ k_) ∧ some k_ ≠ (.slice Ao118 t178.length co118 : Value).ownBlock ∧ some k_ ≠ (v192 : Value).ownBlock)) (by (with_reducible repeat (first | apply Kd.R_alloc | apply Kd.R_drewN | apply Kd.R_drew)); exact HO_10.out) hg hat); have n3_ := Aside0.mk (Kd.R_after (ok := (fun k_ => (w.heap.size ≤ k_) ∧ some k_ ≠ (.slice Ao118 t178.length co118 : Value).ownBlock ∧ some k_ ≠ (v182 : Value).ownBlock)) (by (with_reducible repeat (first | apply Kd.R_alloc | apply Kd.R_drewN | apply Kd.R_drew)); exact HO_14.out) hg hat); have n4_ := Aside0.mk (Kd.V_afterv (ok := (fun k_ => (P0_ k_ ∨ w.heap.size ≤ k_) ∧ some k_ ≠ (.slice Ao118 t178.length co118 : Value).ownBlock ∧ some k_ ≠ (v182 : Value).ownBlock ∧ some k_ ≠ (v192 : Value).ownBlock ∧ k_ ≠ gb172)) (by (with_reducible repeat (first | apply Kd.V_alloc | apply Kd.V_drewN | apply Kd.V_drew)); exact HO_173000.out) hg hat); have n5_ := Aside0.mk (blk_grown (g := gb172) (o := .cells #[.slice Ao77 x173000_4.length co77, .int .i64 x173001_4] 24 (0, 0)) (by (with_reducible repeat (first | refine blk_drewN ?_ _ | refine blk_drew ?_ | refine blk_alloc ?_ _)); exact BK172.out) hg (Kd.R_ne HO219.out BK172.out (by decide))); have n6_ := Aside0.mk (hb); have n7_ := Aside0.mk (ho); clear HO_0; clear HO_9; clear HO_10; clear HO_14; clear HO_173000; clear BK172; clear HB; clear HO219; have HO_0 := n0_; have HO_9 := n1_; have HO_10 := n2_; have HO_14 := n3_; have HO_173000 := n4_; have BK172 := n5_; have HB := n6_; have HO222 := n7_; clear n0_ n1_ n2_ n3_ n4_ n5_ n6_ n7_; clear ho hb hg hat; obtain ⟨Ao120, co120, eo120⟩ := Kd.R_slice HO_10.out; subst eo120) | ((with_reducible refine gate_builtin (b := .append) (xs := #[.tmp 115, .tmp 116]) rfl ?_); (try (refine gate_guard (by rfl) ?_; dsimp only)); at_builtin; refine Kd.R_append_rows (Kd.int .u32) (w0 := w) w.heap.size rfl (.tmp 115) (.tmp 116) 22 27 (.int .u32 0) 4 rfl Try.underlying22 info27 rfl (by decide) (by omega) v221 y220 t181 _ _ _ (fun k_ => (w.heap.size ≤ k_) ∧ some k_ ≠ (.slice Ao118 t178.length co118 : Value).ownBlock ∧ some k_ ≠ (.slice Ao120 t181.length co120 : Value).ownBlock ∧ some k_ ≠ (v192 : Value).ownBlock) (fun _ => False) rfl rfl ?aO ?aR (fun _ _ h => h) (fun _ h => h.elim) ?aF ?aB ?aS ?aL ?_; (case aR => repeat (first | exact (Kd.R_reads' HO_10.out).2.2 | (with_reducible refine Kd.C_alloc ?_ _) | (with_reducible refine Kd.C_drewN ?_ _) | (with_reducible refine Kd.C_drew ?_))); (case aB => exact (by repeat (first | (with_reducible first | exact HB.out | apply below_alloc | apply pw_below_drewN | apply below_drew1 | refine below_set ?_ GE172.out) | exact HB.out))); (case aF => exact (fun k_ hk => ⟨(Nat.le_trans (below_size (by repeat (first | (with_reducible first | exact HB.out | apply below_alloc | apply pw_below_drewN | apply below_drew1 | refine below_set ?_ GE172.out) | exact HB.out))) hk), Kd.fresh' (Kd.R_lt (by (with_reducible repeat (first | apply Kd.R_alloc | apply Kd.R_drewN | apply Kd.R_drew)); exact HO_9.out)) k_ hk, Kd.fresh' (Kd.R_lt (by (with_reducible repeat (first | apply Kd.R_alloc | apply Kd.R_drewN | apply Kd.R_drew)); exact HO_10.out)) k_ hk, Kd.fresh' (Kd.R_lt (by (with_reducible repeat (first | apply Kd.R_alloc | apply Kd.R_drewN | apply Kd.R_drew)); exact HO_14.out)) k_ hk⟩)); (case aO => exact (by (with_reducible repeat (first | apply Kd.R_alloc | apply Kd.R_drewN | apply Kd.R_drew)); exact HO222.out)); (case aS => exact (below_size (by repeat (first | (with_reducible first | exact HB.out | apply below_alloc | apply pw_below_drewN | apply below_drew1 | refine below_set ?_ GE172.out) | exact HB.out)))); (case aL => have := LMc113.out; omega); intro v224 w119 ho hb hg hat; rw [← Ny223.out] at ho; have n0_ := Aside0.mk (Kd.V_afterv (ok := (fun k_ => (P0_ k_ ∨ w.heap.size ≤ k_) ∧ some k_ ≠ (.slice Ao118 t178.length co118 : Value).ownBlock ∧ some k_ ≠ (.slice Ao120 t181.length co120 : Value).ownBlock ∧ some k_ ≠ (v192 : Value).ownBlock ∧ k_ ≠ gb172)) (by (with_reducible repeat (first | apply Kd.V_alloc | apply Kd.V_drewN | apply Kd.V_drew)); exact HO_0.out) hg hat); have n1_ := Aside0.mk (Kd.R_after (ok := (fun k_ => (w.heap.size ≤ k_) ∧ some k_ ≠ (.slice Ao120 t181.length co120 : Value).ownBlock ∧ some k_ ≠ (v192 : Value).ownBlock)) (by (with_reducible repeat (first | apply Kd.R_alloc | apply Kd.R_drewN | apply Kd.R_drew)); exact HO_9.out) hg hat); have n2_ := Aside0.mk (Kd.R_after (ok := (fun k_ => (w.heap.size ≤ k_) ∧ some k_ ≠ (.slice Ao118 t178.length co118 : Value).ownBlock ∧ some k_ ≠ (v192 : Value).ownBlock)) (by (with_reducible repeat (first | apply Kd.R_alloc | apply Kd.R_drewN | apply Kd.R_drew)); exact HO_10.out) hg hat); have n3_ := Aside0.mk (Kd.R_after (ok := (fun k_ => (w.heap.size ≤ k_) ∧ some k_ ≠ (.slice Ao118 t178.length co118 : Value).ownBlock ∧ some k_ ≠ (.slice Ao120 t181.length co120 : Value).ownBlock)) (by (with_reducible repeat (first | apply Kd.R_alloc | apply Kd.R_drewN | apply Kd.R_drew)); exact HO_14.out) hg hat); have n4_ := Aside0.mk (Kd.V_afterv (ok := (fun k_ => (P0_ k_ ∨ w.heap.size ≤ k_) ∧ some k_ ≠ (.slice Ao118 t178.length co118 : Value).ownBlock ∧ some k_ ≠ (.slice Ao120 t181.length co120 : Value).ownBlock ∧ some k_ ≠ (v192 : Value).ownBlock ∧ k_ ≠ gb172)) (by (with_reducible repeat (first | apply Kd.V_alloc | apply Kd.V_drewN | apply Kd.V_drew)); exact HO_173000.out) hg hat); have n5_ := Aside0.mk (blk_grown (g := gb172) (o := .cells #[.slice Ao77 x173000_4.length co77, .int .i64 x173001_4] 24 (0, 0)) (by (with_reducible repeat (first | refine blk_drewN ?_ _ | refine blk_drew ?_ | refine blk_alloc ?_ _)); exact BK172.out) hg (Kd.R_ne HO222.out BK172.out (by decide))); have n6_ := Aside0.mk (hb); have n7_ := Aside0.mk (ho); clear HO_0; clear HO_9; clear HO_10; clear HO_14; clear HO_173000; clear BK172; clear HB; clear HO222; have HO_0 := n0_; have HO_9 := n1_; have HO_10 := n2_; have HO_14 := n3_; have HO_173000 := n4_; have BK172 := n5_; have HB := n6_; have HO225 := n7_; clear n0_ n1_ n2_ n3_ n4_ n5_ n6_ n7_; clear ho hb hg hat; obtain ⟨Ao121, co121, eo121⟩ := Kd.R_slice HO_14.out; subst eo121; obtain ⟨Ao122, co122, eo122⟩ := Kd.R_slice HO225.out; subst eo122) | ((with_reducible refine gate_callee (f := 12) rfl ?_); refine goesL_ (some 118) rfl rfl Try.func12 (by kernel_rfl) rfl #[.slice Ao121 t191.length co121, .slice Ao122 y223.length co122] rfl (by (try simp only [List.map_toArray, List.map_cons, List.map_nil]); first | done | rfl | (simp only [List.length_drop, List.length_take]; rfl)) ?_; (with_reducible refine (chamberlainref01_Same.calls k5 _ _ t191 _ _ y223 t226 _ ?side1 ?side2 ?side3 ?side4 A114.out).mono ?_); (case side1 => repeat (first | exact (Kd.R_reads' HO_14.out).2.2 | (with_reducible refine Kd.C_alloc ?_ _) | (with_reducible refine Kd.C_drewN ?_ _) | (with_reducible refine Kd.C_drew ?_))); (case side2 => exact (Kd.R_reads' HO_14.out).2.1); (case side3 => repeat (first | exact (Kd.R_reads' HO225.out).2.2 | (with_reducible refine Kd.C_alloc ?_ _) | (with_reducible refine Kd.C_drewN ?_ _) | (with_reducible refine Kd.C_drew ?_))); (case side4 => exact (Kd.R_reads' HO225.out).2.1); rintro e w' ⟨rfl, ⟨nd, rfl⟩⟩; refine ⟨_, rfl, ?_⟩))
                                      go_ret
                                      exact ⟨by first | rfl | (simp [errW_none, errW_some] <;> rfl) | (simp [*, errW_none, errW_some] <;> rfl), by repeat (first | (with_reducible first | exact HB.out | apply below_alloc | apply pw_below_drewN | apply below_drew1 | refine below_set ?_ GE172.out) | exact HB.out)⟩
                                    · rw [if_neg c113] at H
                                      exact absurd H (by simp)
                                  · rw [if_neg c112] at H
                                    exact absurd H (by simp)


end Go.Proofs.Ytinfkgbbfmeiaaa.PDrawOnce
