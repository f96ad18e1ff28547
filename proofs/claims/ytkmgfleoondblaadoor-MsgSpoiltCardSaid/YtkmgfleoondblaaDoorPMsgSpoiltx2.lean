-- Written for this claim by wip/tools/myprint.py (print.py's forms; proofs of the faked functions by hand).
import Derived.Test.YtkmgfleoondblaaDoorKMsgSpoilt
import Derived.Test.YtkmgfleoondblaaDoorPMsgSpoiltx1
import Derived.Test.YtkmgfleoondblaaDoorPMsgSpoiltx0
namespace Go.Proofs.YtkmgfleoondblaaDoor.PMsgSpoilt
open Go.RowKit Go.Proofs.YtkmgfleoondblaaDoorW.PrintWords Go.Proofs.YtkmgfleoondblaaDoorW.PrintLast Go.Proofs.YtkmgfleoondblaaDoorW.PrintMore
attribute [local go_sem] max2_int min2_int max_two min_two max_three min_three max_four min_four   -- for this text's walks alone
set_option linter.unusedVariables false
set_option linter.unusedSimpArgs false

-- NOT PRINTED: function 19 (msg_words)
/-! ### chamberlainref01_Same: function 13 -/
def chamberlainref01_Same.l0 : Nat → List Int → List Int → Int → Option (Bool)
 | 0, _, _, _ => none
 | k + 1, x0, x1, x5 => if x5 < (x0.length : Int) then (if 0 ≤ x5 then (if x5 < (x1.length : Int) then (if (rd x0 x5) = (rd x1 x5) then (chamberlainref01_Same.l0 k x0 x1 (wrap64 (x5 + 1))) else (some false)) else (none)) else (none)) else (some true)
def chamberlainref01_Same.f (k : Nat) (l0 : List Int) (l1 : List Int) : Option (Bool) := if (l0.length : Int) = (l1.length : Int) then (chamberlainref01_Same.l0 k l0 l1 0) else (some false)
theorem chamberlainref01_Same.mono_l : ∀ k, (∀ y0 y1 y2, LeO (chamberlainref01_Same.l0 k y0 y1 y2) (chamberlainref01_Same.l0 (k + 1) y0 y1 y2))
 | 0 => fun _ _ _ r h => by simp [chamberlainref01_Same.l0] at h
 | k + 1 => by
  have ih0 := chamberlainref01_Same.mono_l k
  ·
   intro y0 y1 y2
   unfold chamberlainref01_Same.l0
   repeat' first
   | (with_reducible exact ih0 _ _ _)
   | (with_reducible exact LeO.refl _)
   | (with_reducible exact LeO.none _)
   | (with_reducible refine LeO.ite ?_ ?_)
   | (with_reducible refine LeO.bind ?_ (fun _ => ?_))
   | exact ih0 _ _ _
   | exact LeO.none _
   | refine LeO.ite ?_ ?_
   | refine LeO.bind ?_ (fun _ => ?_)
theorem chamberlainref01_Same.mono : ∀ a0 a1 k, LeO (chamberlainref01_Same.f k a0 a1) (chamberlainref01_Same.f (k + 1) a0 a1) := by
 intro a0 a1 k
 have ih0 := chamberlainref01_Same.mono_l k
 unfold chamberlainref01_Same.f
 repeat' first
   | (with_reducible exact ih0 _ _ _)
   | (with_reducible exact LeO.refl _)
   | (with_reducible exact LeO.none _)
   | (with_reducible refine LeO.ite ?_ ?_)
   | (with_reducible refine LeO.bind ?_ (fun _ => ?_))
   | exact ih0 _ _ _
   | exact LeO.none _
   | refine LeO.ite ?_ ?_
   | refine LeO.bind ?_ (fun _ => ?_)
set_option maxHeartbeats 8000000 in
set_option maxRecDepth 100000 in
theorem chamberlainref01_Same.calls (k : Nat) (A0 : Option Addr) (c0 : Nat) (l0 : List Int) (A1 : Option Addr) (c1 : Nat) (l1 : List Int) (r : Bool) (w : World) (hr0 : Kd.C (Kd.int .u32) w A0 l0.length l0) (hc0 : l0.length ≤ c0) (hr1 : Kd.C (Kd.int .u32) w A1 l1.length l1) (hc1 : l1.length ≤ c1) (h : chamberlainref01_Same.f k l0 l1 = some r) :
  Calls Tryd.prog 13 #[.slice A0 l0.length c0, .slice A1 l1.length c1] w fun e w' => e = .returned (.bool r) ∧ Drawn0 w w' := by
 have HR0 := Aside0.mk hr0
 have HC0 := Aside0.mk hc0
 clear hr0 hc0
 have HR1 := Aside0.mk hr1
 have HC1 := Aside0.mk hc1
 clear hr1 hc1
 have H : (if (l0.length : Int) = (l1.length : Int) then (chamberlainref01_Same.l0 k l0 l1 0) else (some false)) = some r := h
 clear h
 by_cases c3 : (l0.length : Int) = (l1.length : Int)
 ·
  rw [if_pos c3] at H
  have c3b0 : ((l0.length : Int) == (l1.length : Int)) = true := beq_iff_eq.mpr c3
  have c3b1 : ((l0.length : Int) != (l1.length : Int)) = false := bne_eq_false_iff_eq.mpr c3
  have c3b2 : (l0.length == l1.length) = true := by first | simpa using c3 | (simp at c3 ⊢; omega)
  clear c3
  have H' := Aside0.mk H
  clear H
  go_enter Tryd.func13, Tryd.ntmps13
  go_wp2
  repeat (go_quiet (fail); try go_wp2)
  go_loopg [5] k (fun kq v5 w' => ∃ (x5_1 : Int), v5 = .int .i64 x5_1 ∧ Aside0 (chamberlainref01_Same.l0 kq l0 l1 x5_1 = some r) ∧ Aside0 (kq ≤ k) ∧ Drawn0 w w')
  case atStart => exact ⟨(0), (by first | rfl | (simp; done) | (simp [*]; done)), H', ⟨Nat.le_refl _⟩, by repeat (first | exact Drawn0.refl _ | apply Drawn0.step)⟩
  case round =>
   clear H'
   try clear c1
   try clear p2
   try clear c3
   try clear c3b0
   try clear c3b1
   try clear c3b2
   obtain ⟨x5_1, rfl, HA, HK1, ⟨m1, rfl⟩⟩ := hrel
   cases gk with
   | zero => exact absurd HA.out (by simp [chamberlainref01_Same.l0])
   | succ k1 =>
    have H := HA.out
    clear HA
    simp only [chamberlainref01_Same.l0] at H
    by_cases c4 : x5_1 < (l0.length : Int)
    ·
     rw [if_pos c4] at H
     have c4b0 : decide (x5_1 < (l0.length : Int)) = true := decide_eq_true c4
     clear c4
     by_cases c5 : 0 ≤ x5_1
     ·
      rw [if_pos c5] at H
      have c5b0 : decide (0 ≤ x5_1) = true := decide_eq_true c5
      clear c5
      by_cases c6 : x5_1 < (l1.length : Int)
      ·
       rw [if_pos c6] at H
       have c6b0 : decide (x5_1 < (l1.length : Int)) = true := decide_eq_true c6
       clear c6
       by_cases c7 : (rd l0 x5_1) = (rd l1 x5_1)
       ·
        rw [if_pos c7] at H
        have c7b0 : ((rd l0 x5_1) == (rd l1 x5_1)) = true := beq_iff_eq.mpr c7
        have c7b1 : ((rd l0 x5_1) != (rd l1 x5_1)) = false := bne_eq_false_iff_eq.mpr c7
        clear c7
        have H' := Aside0.mk H
        clear H
        have p129 : 0 ≤ (x5_1 : Int) := of_decide_eq_true (by first | (with_reducible assumption) | assumption)
        have q129 : x5_1 < (l0.length : Int) := of_decide_eq_true (by first | (with_reducible assumption) | assumption)
        obtain ⟨ad129, e129, hx129_0⟩ := Kd.at_int HR0.out x5_1 p129 q129
        cases e129
        replace p129 := eq_true p129
        replace q129 := eq_true q129
        have p130 : 0 ≤ (x5_1 : Int) := of_decide_eq_true (by first | (with_reducible assumption) | assumption)
        have q130 : x5_1 < (l1.length : Int) := of_decide_eq_true (by first | (with_reducible assumption) | assumption)
        obtain ⟨ad130, e130, hx130_0⟩ := Kd.at_int HR1.out x5_1 p130 q130
        cases e130
        replace p130 := eq_true p130
        replace q130 := eq_true q130
        go_wp2
        repeat (go_quiet (fail); try go_wp2)
        go_roundg k1
        case measure => have := HK1.out; omega
        case rel => exact ⟨(wrap64 (x5_1 + 1)), (by first | rfl | (simp; done) | (simp [*]; done)), H', ⟨by have := HK1.out; omega⟩, by repeat (first | exact Drawn0.refl _ | apply Drawn0.step)⟩
       ·
        rw [if_neg c7] at H
        have c7b0 : ((rd l0 x5_1) == (rd l1 x5_1)) = false := beq_eq_false_iff_ne.mpr c7
        have c7b1 : ((rd l0 x5_1) != (rd l1 x5_1)) = true := bne_iff_ne.mpr c7
        obtain rfl := Option.some.inj H
        have p129 : 0 ≤ (x5_1 : Int) := of_decide_eq_true (by first | (with_reducible assumption) | assumption)
        have q129 : x5_1 < (l0.length : Int) := of_decide_eq_true (by first | (with_reducible assumption) | assumption)
        obtain ⟨ad129, e129, hx129_0⟩ := Kd.at_int HR0.out x5_1 p129 q129
        cases e129
        replace p129 := eq_true p129
        replace q129 := eq_true q129
        have p130 : 0 ≤ (x5_1 : Int) := of_decide_eq_true (by first | (with_reducible assumption) | assumption)
        have q130 : x5_1 < (l1.length : Int) := of_decide_eq_true (by first | (with_reducible assumption) | assumption)
        obtain ⟨ad130, e130, hx130_0⟩ := Kd.at_int HR1.out x5_1 p130 q130
        cases e130
        replace p130 := eq_true p130
        replace q130 := eq_true q130
        go_wp2
        repeat (go_quiet (fail); try go_wp2)
        go_ret
        exact ⟨by first | rfl | (simp; done) | (simp [*]; done), by repeat (first | exact Drawn0.refl _ | apply Drawn0.step)⟩
      ·
       rw [if_neg c6] at H
       exact absurd H (by simp)
     ·
      rw [if_neg c5] at H
      exact absurd H (by simp)
    ·
     rw [if_neg c4] at H
     have c4b0 : decide (x5_1 < (l0.length : Int)) = false := decide_eq_false c4
     clear c4
     obtain rfl := Option.some.inj H
     go_wp2
     repeat (go_quiet (fail); try go_wp2)
     go_ret
     exact ⟨by first | rfl | (simp; done) | (simp [*]; done), by repeat (first | exact Drawn0.refl _ | apply Drawn0.step)⟩
 ·
  rw [if_neg c3] at H
  have c3b0 : ((l0.length : Int) == (l1.length : Int)) = false := beq_eq_false_iff_ne.mpr c3
  have c3b1 : ((l0.length : Int) != (l1.length : Int)) = true := bne_iff_ne.mpr c3
  have c3b2 : (l0.length == l1.length) = false := by first | simpa using c3 | (simp at c3 ⊢; omega)
  obtain rfl := Option.some.inj H
  go_enter Tryd.func13, Tryd.ntmps13
  go_wp2
  repeat (go_quiet (fail); try go_wp2)
  go_ret
  exact ⟨by first | rfl | (simp; done) | (simp [*]; done), by repeat (first | exact Drawn0.refl _ | apply Drawn0.step)⟩

/-! ### wire_Get: function 24 -/
def wire_Get.l0 : Nat → List Int → List (S45) → Int → Option ((List (S45)) × Int)
 | 0, _, _, _ => none
 | k + 1, x0, x4, x5 => if (x0.length : Int) > 0 then (if (x4.length : Int) = 8 then (if 3 = 0 then (some (x4, 0)) else (some (([] : List (S45)), 3))) else (if (x0.length : Int) < 2 then (if 2 = 0 then (some (x4, 0)) else (some (([] : List (S45)), 2))) else (if 0 < (x0.length : Int) then (if (rd x0 0) < 1 then (if 2 = 0 then (some (x4, 0)) else (some (([] : List (S45)), 2))) else (if (rd x0 0) > 255 then (if 2 = 0 then (some (x4, 0)) else (some (([] : List (S45)), 2))) else (if 1 < (x0.length : Int) then (if (rd x0 1) > 16 then (if 2 = 0 then (some (x4, 0)) else (some (([] : List (S45)), 2))) else (if (wrap64 (rd x0 1)) > (wrap64 ((x0.length : Int) - 2)) then (if 2 = 0 then (some (x4, 0)) else (some (([] : List (S45)), 2))) else (if 2 ≤ (wrap64 (2 + (wrap64 (rd x0 1)))) then (if (wrap64 (2 + (wrap64 (rd x0 1)))) ≤ (x0.length : Int) then ((wire_One.f (rd x0 0) ((x0.take ((wrap64 (2 + (wrap64 (rd x0 1)))) : Int).toNat).drop 2)).bind fun bt142 => (if x4.length < 4398046511104 then (if 0 ≤ (wrap64 (2 + (wrap64 (rd x0 1)))) then (wire_Get.l0 k (x0.drop ((wrap64 (2 + (wrap64 (rd x0 1)))) : Int).toNat) (x4 ++ [(⟨bt142.1, bt142.2⟩ : S45)]) x5) else (none)) else (none))) else (none)) else (none)))) else (none)))) else (none)))) else (if x5 = 0 then (some (x4, 0)) else (some (([] : List (S45)), x5)))
def wire_Get.f (k : Nat) (l0 : List Int) : Option ((List (S45)) × Int) := if (l0.length : Int) > 64 then (some (([] : List (S45)), 3)) else (wire_Get.l0 k l0 ([] : List (S45)) 0)
theorem wire_Get.mono_l : ∀ k, (∀ y0 y1 y2, LeO (wire_Get.l0 k y0 y1 y2) (wire_Get.l0 (k + 1) y0 y1 y2))
 | 0 => fun _ _ _ r h => by simp [wire_Get.l0] at h
 | k + 1 => by
  have ih0 := wire_Get.mono_l k
  ·
   intro y0 y1 y2
   unfold wire_Get.l0
   repeat' first
   | (with_reducible exact ih0 _ _ _)
   | (with_reducible exact LeO.refl _)
   | (with_reducible exact LeO.none _)
   | (with_reducible refine LeO.ite ?_ ?_)
   | (with_reducible refine LeO.bind ?_ (fun _ => ?_))
   | exact ih0 _ _ _
   | exact LeO.none _
   | refine LeO.ite ?_ ?_
   | refine LeO.bind ?_ (fun _ => ?_)
theorem wire_Get.mono : ∀ a0 k, LeO (wire_Get.f k a0) (wire_Get.f (k + 1) a0) := by
 intro a0 k
 have ih0 := wire_Get.mono_l k
 unfold wire_Get.f
 repeat' first
   | (with_reducible exact ih0 _ _ _)
   | (with_reducible exact LeO.refl _)
   | (with_reducible exact LeO.none _)
   | (with_reducible refine LeO.ite ?_ ?_)
   | (with_reducible refine LeO.bind ?_ (fun _ => ?_))
   | exact ih0 _ _ _
   | exact LeO.none _
   | refine LeO.ite ?_ ?_
   | refine LeO.bind ?_ (fun _ => ?_)
def wire_Get.T11 : Bool × List (List Nat × List Nat) := (true, [([], []), ([], []), ([1], [1]), ([2], [2]), ([], []), ([], []), ([4, 5], [4, 5]), ([3, 6], [3, 6]), ([7], [7]), ([0, 8, 7], [0, 8]), ([9, 9, 0, 1, 2, 3, 4, 5, 6, 7, 8, 9], [0, 9])])
def wire_Get.B11 : List Nat := [0, 0, 2, 6, 0, 0, 48, 126, 254, 511, 1023]
theorem wire_Get.tab11 : rtab .any (opsOf Tryd.f24 11) = wire_Get.T11 := by kernel_rfl
theorem wire_Get.bits11 : waitsOk wire_Get.T11.2 wire_Get.B11 = true := by kernel_rfl
set_option maxHeartbeats 8000000 in
set_option maxRecDepth 100000 in
theorem wire_Get.calls (k : Nat) (P0_ : Nat → Prop) (A0 : Option Addr) (c0 : Nat) (l0 : List Int) (r1 : List (S45)) (r2 : Int) (w : World) (hs0 : Kd.V (Kd.int .u32) 22 w w.heap.size (fun k_ => P0_ k_) (.slice A0 l0.length c0) l0) (h : wire_Get.f k l0 = some (r1, r2)) :
  Calls Tryd.prog 24 #[.slice A0 l0.length c0] w fun e w' => ∃ v0_ : Value, e = .returned (.tuple #[v0_, .int .i64 r2]) ∧ Kd.S k45 45 w' w.heap.size (fun k_ => (w.heap.size ≤ k_)) v0_ r1 ∧ Below w.heap.size w w' := by
 have HO0 := Aside0.mk (show Kd.V (Kd.int .u32) 22 w w.heap.size (fun k_ => (P0_ k_ ∨ w.heap.size ≤ k_)) (.slice A0 l0.length c0) l0 from Kd.V_mono hs0 (fun k_ hk => .inl hk))
 have HB := Aside0.mk (Below.refl w.heap.size w)
 have H : (if (l0.length : Int) > 64 then (some (([] : List (S45)), 3)) else (wire_Get.l0 k l0 ([] : List (S45)) 0)) = some (r1, r2) := h
 clear h
 by_cases c2 : (l0.length : Int) > 64
 ·
  rw [if_pos c2] at H
  have c2b0 : decide (64 < (l0.length : Int)) = true := decide_eq_true c2
  have c2b1 : decide (64 < l0.length) = true := decide_eq_true (by omega)
  clear c2
  simp only [Option.some.injEq, Prod.mk.injEq] at H
  obtain ⟨rfl, rfl⟩ := H
  go_enter Tryd.func24, Tryd.ntmps24
  go_wp2
  go_step3
  go_wp2
  try (go_step3; go_wp2)
  try rw [Exit.noGoto_ret]
  go_ret2
  exact ⟨_, by first | rfl | (simp [errW_none, errW_some] <;> rfl) | (simp [*, errW_none, errW_some] <;> rfl), by first | exact Kd.S_nil _ _ _ _ _ | exact Kd.N_nil _ _ _ _ _ | exact Kd.V_nil _ _ _ _ _ | exact Kd.Q_nil _ _ _ _ _ | exact Kd.R_nil _ _ _ _ _, by repeat (first | (with_reducible first | exact HB.out | apply below_alloc | apply pw_below_drewN | apply below_drew1) | exact HB.out)⟩
 ·
  rw [if_neg c2] at H
  have c2b0 : decide (64 < (l0.length : Int)) = false := decide_eq_false c2
  have c2b1 : decide (64 < l0.length) = false := decide_eq_false (by omega)
  clear c2
  have H' := Aside0.mk H
  clear H
  go_enter Tryd.func24, Tryd.ntmps24
  go_wp2
  go_step3
  go_wp2
  try (go_step3; go_wp2)
  go_loopg [0, 4, 5] k (fun kq v0 v4 v5 w' => ∃ (x0_1 : List Int) (x4_1 : List (S45)) (x5_1 : Int), v5 = .int .i64 x5_1 ∧ Aside0 (wire_Get.l0 kq x0_1 x4_1 x5_1 = some (r1, r2)) ∧ Aside0 (kq ≤ k) ∧ Aside0 (Kd.V (Kd.int .u32) 22 w' w.heap.size (fun k_ => (P0_ k_ ∨ w.heap.size ≤ k_) ∧ some k_ ≠ (v4 : Value).ownBlock) v0 x0_1) ∧ Aside0 (Kd.S k45 45 w' w.heap.size (fun k_ => (w.heap.size ≤ k_)) v4 x4_1) ∧ Aside0 (Below w.heap.size w w'))
  case atStart => exact ⟨(l0), (([] : List (S45))), (0), (by first | rfl | (simp; done) | (simp [*]; done)), H', ⟨Nat.le_refl _⟩, ⟨by (with_reducible repeat (first | apply Kd.V_alloc | apply Kd.V_drewN | apply Kd.V_drew)); exact Kd.V_mono HO0.out (fun _ hk => ⟨hk, (by simp [Value.ownBlock])⟩)⟩, ⟨by first | exact Kd.S_nil _ _ _ _ _ | exact Kd.N_nil _ _ _ _ _ | exact Kd.V_nil _ _ _ _ _ | exact Kd.Q_nil _ _ _ _ _ | exact Kd.R_nil _ _ _ _ _⟩, ⟨by repeat (first | (with_reducible first | exact HB.out | apply below_alloc | apply pw_below_drewN | apply below_drew1) | exact HB.out)⟩⟩
  case round =>
   clear H'
   try clear c2
   try clear c2b0
   try clear c2b1
   try clear p2
   obtain ⟨x0_1, x4_1, x5_1, rfl, HA, HK1, HO_0, HO_4, HB⟩ := hrel
   cases gk with
   | zero => exact absurd HA.out (by simp [wire_Get.l0])
   | succ k1 =>
    have H := HA.out
    clear HA
    simp only [wire_Get.l0] at H
    by_cases c3 : (x0_1.length : Int) > 0
    ·
     rw [if_pos c3] at H
     have c3b0 : decide (0 < (x0_1.length : Int)) = true := decide_eq_true c3
     have c3b1 : decide (0 < x0_1.length) = true := decide_eq_true (by omega)
     clear c3
     by_cases c4 : (x4_1.length : Int) = 8
     ·
      rw [if_pos c4] at H
      have c4b0 : ((x4_1.length : Int) == 8) = true := beq_iff_eq.mpr c4
      have c4b1 : ((x4_1.length : Int) != 8) = false := bne_eq_false_iff_eq.mpr c4
      clear c4
      by_cases c5 : 3 = 0
      ·
       exact absurd c5 (by decide)
      ·
       rw [if_neg c5] at H
       have c5b0 : (3 == 0) = false := beq_eq_false_iff_ne.mpr c5
       have c5b1 : (3 != 0) = true := bne_iff_ne.mpr c5
       simp only [Option.some.injEq, Prod.mk.injEq] at H
       obtain ⟨rfl, rfl⟩ := H
       obtain ⟨Ao8, co8, eo8⟩ := Kd.V_slice HO_0.out
       subst eo8
       obtain ⟨Ao9, co9, eo9⟩ := Kd.S_slice HO_4.out
       subst eo9
       go_wp2
       try rw [Exit.noGoto_ret]
       go_ret2
       exact ⟨_, by first | rfl | (simp [errW_none, errW_some] <;> rfl) | (simp [*, errW_none, errW_some] <;> rfl), by first | exact Kd.S_nil _ _ _ _ _ | exact Kd.N_nil _ _ _ _ _ | exact Kd.V_nil _ _ _ _ _ | exact Kd.Q_nil _ _ _ _ _ | exact Kd.R_nil _ _ _ _ _, by repeat (first | (with_reducible first | exact HB.out | apply below_alloc | apply pw_below_drewN | apply below_drew1) | exact HB.out)⟩
     ·
      rw [if_neg c4] at H
      have c4b0 : ((x4_1.length : Int) == 8) = false := beq_eq_false_iff_ne.mpr c4
      have c4b1 : ((x4_1.length : Int) != 8) = true := bne_iff_ne.mpr c4
      by_cases c10 : (x0_1.length : Int) < 2
      ·
       rw [if_pos c10] at H
       have c10b0 : decide ((x0_1.length : Int) < 2) = true := decide_eq_true c10
       have c10b1 : decide (x0_1.length < 2) = true := decide_eq_true (by omega)
       clear c10
       by_cases c11 : 2 = 0
       ·
        exact absurd c11 (by decide)
       ·
        rw [if_neg c11] at H
        have c11b0 : (2 == 0) = false := beq_eq_false_iff_ne.mpr c11
        have c11b1 : (2 != 0) = true := bne_iff_ne.mpr c11
        simp only [Option.some.injEq, Prod.mk.injEq] at H
        obtain ⟨rfl, rfl⟩ := H
        obtain ⟨Ao14, co14, eo14⟩ := Kd.V_slice HO_0.out
        subst eo14
        obtain ⟨Ao15, co15, eo15⟩ := Kd.S_slice HO_4.out
        subst eo15
        go_wp2
        try rw [Exit.noGoto_ret]
        go_ret2
        exact ⟨_, by first | rfl | (simp [errW_none, errW_some] <;> rfl) | (simp [*, errW_none, errW_some] <;> rfl), by first | exact Kd.S_nil _ _ _ _ _ | exact Kd.N_nil _ _ _ _ _ | exact Kd.V_nil _ _ _ _ _ | exact Kd.Q_nil _ _ _ _ _ | exact Kd.R_nil _ _ _ _ _, by repeat (first | (with_reducible first | exact HB.out | apply below_alloc | apply pw_below_drewN | apply below_drew1) | exact HB.out)⟩
      ·
       rw [if_neg c10] at H
       have c10b0 : decide ((x0_1.length : Int) < 2) = false := decide_eq_false c10
       have c10b1 : decide (x0_1.length < 2) = false := decide_eq_false (by omega)
       clear c10
       by_cases c16 : 0 < (x0_1.length : Int)
       ·
        rw [if_pos c16] at H
        have c16b0 : decide (0 < (x0_1.length : Int)) = true := decide_eq_true c16
        have c16b1 : decide (0 < x0_1.length) = true := decide_eq_true (by omega)
        clear c16
        by_cases c17 : (rd x0_1 0) < 1
        ·
         rw [if_pos c17] at H
         have c17b0 : decide ((rd x0_1 0) < 1) = true := decide_eq_true c17
         clear c17
         by_cases c18 : 2 = 0
         ·
          exact absurd c18 (by decide)
         ·
          rw [if_neg c18] at H
          have c18b0 : (2 == 0) = false := beq_eq_false_iff_ne.mpr c18
          have c18b1 : (2 != 0) = true := bne_iff_ne.mpr c18
          simp only [Option.some.injEq, Prod.mk.injEq] at H
          obtain ⟨rfl, rfl⟩ := H
          obtain ⟨Ao21, co21, eo21⟩ := Kd.V_slice HO_0.out
          subst eo21
          obtain ⟨Ao22, co22, eo22⟩ := Kd.S_slice HO_4.out
          subst eo22
          have p131 : 0 ≤ (0 : Int) := (by omega)
          have q131 : 0 < (x0_1.length : Int) := of_decide_eq_true (by first | (with_reducible assumption) | assumption)
          obtain ⟨ad131, e131, hx131_0⟩ := Kd.at_int (Kd.V_reads' HO_0.out).2.2 0 p131 q131
          cases e131
          have qi131 : (0 < x0_1.length) = True := eq_true (by omega)
          (try rw [show ((0 : Int)).toNat = 0 from rfl] at hx131_0)
          (try rw [Addr.add_zero'] at hx131_0)
          replace p131 := eq_true p131
          replace q131 := eq_true q131
          go_wp2
          try rw [Exit.noGoto_ret]
          go_ret2
          exact ⟨_, by first | rfl | (simp [errW_none, errW_some] <;> rfl) | (simp [*, errW_none, errW_some] <;> rfl), by first | exact Kd.S_nil _ _ _ _ _ | exact Kd.N_nil _ _ _ _ _ | exact Kd.V_nil _ _ _ _ _ | exact Kd.Q_nil _ _ _ _ _ | exact Kd.R_nil _ _ _ _ _, by repeat (first | (with_reducible first | exact HB.out | apply below_alloc | apply pw_below_drewN | apply below_drew1) | exact HB.out)⟩
        ·
         rw [if_neg c17] at H
         have c17b0 : decide ((rd x0_1 0) < 1) = false := decide_eq_false c17
         clear c17
         by_cases c23 : (rd x0_1 0) > 255
         ·
          rw [if_pos c23] at H
          have c23b0 : decide (255 < (rd x0_1 0)) = true := decide_eq_true c23
          clear c23
          by_cases c24 : 2 = 0
          ·
           exact absurd c24 (by decide)
          ·
           rw [if_neg c24] at H
           have c24b0 : (2 == 0) = false := beq_eq_false_iff_ne.mpr c24
           have c24b1 : (2 != 0) = true := bne_iff_ne.mpr c24
           simp only [Option.some.injEq, Prod.mk.injEq] at H
           obtain ⟨rfl, rfl⟩ := H
           obtain ⟨Ao27, co27, eo27⟩ := Kd.V_slice HO_0.out
           subst eo27
           obtain ⟨Ao28, co28, eo28⟩ := Kd.S_slice HO_4.out
           subst eo28
           have p131 : 0 ≤ (0 : Int) := (by omega)
           have q131 : 0 < (x0_1.length : Int) := of_decide_eq_true (by first | (with_reducible assumption) | assumption)
           obtain ⟨ad131, e131, hx131_0⟩ := Kd.at_int (Kd.V_reads' HO_0.out).2.2 0 p131 q131
           cases e131
           have qi131 : (0 < x0_1.length) = True := eq_true (by omega)
           (try rw [show ((0 : Int)).toNat = 0 from rfl] at hx131_0)
           (try rw [Addr.add_zero'] at hx131_0)
           replace p131 := eq_true p131
           replace q131 := eq_true q131
           have p132 : 0 ≤ (0 : Int) := (by omega)
           have q132 : 0 < (x0_1.length : Int) := of_decide_eq_true (by first | (with_reducible assumption) | assumption)
           obtain ⟨ad132, e132, hx132_0⟩ := Kd.at_int (Kd.V_reads' HO_0.out).2.2 0 p132 q132
           obtain rfl : ad131 = ad132 := (by injection e132)
           have qi132 : (0 < x0_1.length) = True := eq_true (by omega)
           (try rw [show ((0 : Int)).toNat = 0 from rfl] at hx132_0)
           (try rw [Addr.add_zero'] at hx132_0)
           replace p132 := eq_true p132
           replace q132 := eq_true q132
           go_wp2
           try rw [Exit.noGoto_ret]
           go_ret2
           exact ⟨_, by first | rfl | (simp [errW_none, errW_some] <;> rfl) | (simp [*, errW_none, errW_some] <;> rfl), by first | exact Kd.S_nil _ _ _ _ _ | exact Kd.N_nil _ _ _ _ _ | exact Kd.V_nil _ _ _ _ _ | exact Kd.Q_nil _ _ _ _ _ | exact Kd.R_nil _ _ _ _ _, by repeat (first | (with_reducible first | exact HB.out | apply below_alloc | apply pw_below_drewN | apply below_drew1) | exact HB.out)⟩
         ·
          rw [if_neg c23] at H
          have c23b0 : decide (255 < (rd x0_1 0)) = false := decide_eq_false c23
          clear c23
          by_cases c29 : 1 < (x0_1.length : Int)
          ·
           rw [if_pos c29] at H
           have c29b0 : decide (1 < (x0_1.length : Int)) = true := decide_eq_true c29
           have c29b1 : decide (1 < x0_1.length) = true := decide_eq_true (by omega)
           clear c29
           by_cases c30 : (rd x0_1 1) > 16
           ·
            rw [if_pos c30] at H
            have c30b0 : decide (16 < (rd x0_1 1)) = true := decide_eq_true c30
            clear c30
            by_cases c31 : 2 = 0
            ·
             exact absurd c31 (by decide)
            ·
             rw [if_neg c31] at H
             have c31b0 : (2 == 0) = false := beq_eq_false_iff_ne.mpr c31
             have c31b1 : (2 != 0) = true := bne_iff_ne.mpr c31
             simp only [Option.some.injEq, Prod.mk.injEq] at H
             obtain ⟨rfl, rfl⟩ := H
             obtain ⟨Ao34, co34, eo34⟩ := Kd.V_slice HO_0.out
             subst eo34
             obtain ⟨Ao35, co35, eo35⟩ := Kd.S_slice HO_4.out
             subst eo35
             have p131 : 0 ≤ (0 : Int) := (by omega)
             have q131 : 0 < (x0_1.length : Int) := of_decide_eq_true (by first | (with_reducible assumption) | assumption)
             obtain ⟨ad131, e131, hx131_0⟩ := Kd.at_int (Kd.V_reads' HO_0.out).2.2 0 p131 q131
             cases e131
             have qi131 : (0 < x0_1.length) = True := eq_true (by omega)
             (try rw [show ((0 : Int)).toNat = 0 from rfl] at hx131_0)
             (try rw [Addr.add_zero'] at hx131_0)
             replace p131 := eq_true p131
             replace q131 := eq_true q131
             have p132 : 0 ≤ (0 : Int) := (by omega)
             have q132 : 0 < (x0_1.length : Int) := of_decide_eq_true (by first | (with_reducible assumption) | assumption)
             obtain ⟨ad132, e132, hx132_0⟩ := Kd.at_int (Kd.V_reads' HO_0.out).2.2 0 p132 q132
             obtain rfl : ad131 = ad132 := (by injection e132)
             have qi132 : (0 < x0_1.length) = True := eq_true (by omega)
             (try rw [show ((0 : Int)).toNat = 0 from rfl] at hx132_0)
             (try rw [Addr.add_zero'] at hx132_0)
             replace p132 := eq_true p132
             replace q132 := eq_true q132
             have p133 : 0 ≤ (1 : Int) := (by omega)
             have q133 : 1 < (x0_1.length : Int) := of_decide_eq_true (by first | (with_reducible assumption) | assumption)
             obtain ⟨ad133, e133, hx133_0⟩ := Kd.at_int (Kd.V_reads' HO_0.out).2.2 1 p133 q133
             obtain rfl : ad131 = ad133 := (by injection e133)
             (try simp only [show (1 : Int).toNat = 1 from rfl, Nat.reduceMul, Nat.reduceEqDiff, Go.Addr.add, ↓reduceIte] at hx133_0)
             have qi133 : (1 < x0_1.length) = True := eq_true (by omega)
             (try rw [show ((1 : Int)).toNat = 1 from rfl] at hx133_0)
             replace p133 := eq_true p133
             replace q133 := eq_true q133
             go_wp2
             try rw [Exit.noGoto_ret]
             go_ret2
             exact ⟨_, by first | rfl | (simp [errW_none, errW_some] <;> rfl) | (simp [*, errW_none, errW_some] <;> rfl), by first | exact Kd.S_nil _ _ _ _ _ | exact Kd.N_nil _ _ _ _ _ | exact Kd.V_nil _ _ _ _ _ | exact Kd.Q_nil _ _ _ _ _ | exact Kd.R_nil _ _ _ _ _, by repeat (first | (with_reducible first | exact HB.out | apply below_alloc | apply pw_below_drewN | apply below_drew1) | exact HB.out)⟩
           ·
            rw [if_neg c30] at H
            have c30b0 : decide (16 < (rd x0_1 1)) = false := decide_eq_false c30
            clear c30
            by_cases c36 : (wrap64 (rd x0_1 1)) > (wrap64 ((x0_1.length : Int) - 2))
            ·
             rw [if_pos c36] at H
             have c36b0 : decide ((wrap64 ((x0_1.length : Int) - 2)) < (wrap64 (rd x0_1 1))) = true := decide_eq_true c36
             clear c36
             by_cases c37 : 2 = 0
             ·
              exact absurd c37 (by decide)
             ·
              rw [if_neg c37] at H
              have c37b0 : (2 == 0) = false := beq_eq_false_iff_ne.mpr c37
              have c37b1 : (2 != 0) = true := bne_iff_ne.mpr c37
              simp only [Option.some.injEq, Prod.mk.injEq] at H
              obtain ⟨rfl, rfl⟩ := H
              obtain ⟨Ao40, co40, eo40⟩ := Kd.V_slice HO_0.out
              subst eo40
              obtain ⟨Ao41, co41, eo41⟩ := Kd.S_slice HO_4.out
              subst eo41
              have p131 : 0 ≤ (0 : Int) := (by omega)
              have q131 : 0 < (x0_1.length : Int) := of_decide_eq_true (by first | (with_reducible assumption) | assumption)
              obtain ⟨ad131, e131, hx131_0⟩ := Kd.at_int (Kd.V_reads' HO_0.out).2.2 0 p131 q131
              cases e131
              have qi131 : (0 < x0_1.length) = True := eq_true (by omega)
              (try rw [show ((0 : Int)).toNat = 0 from rfl] at hx131_0)
              (try rw [Addr.add_zero'] at hx131_0)
              replace p131 := eq_true p131
              replace q131 := eq_true q131
              have p132 : 0 ≤ (0 : Int) := (by omega)
              have q132 : 0 < (x0_1.length : Int) := of_decide_eq_true (by first | (with_reducible assumption) | assumption)
              obtain ⟨ad132, e132, hx132_0⟩ := Kd.at_int (Kd.V_reads' HO_0.out).2.2 0 p132 q132
              obtain rfl : ad131 = ad132 := (by injection e132)
              have qi132 : (0 < x0_1.length) = True := eq_true (by omega)
              (try rw [show ((0 : Int)).toNat = 0 from rfl] at hx132_0)
              (try rw [Addr.add_zero'] at hx132_0)
              replace p132 := eq_true p132
              replace q132 := eq_true q132
              have p133 : 0 ≤ (1 : Int) := (by omega)
              have q133 : 1 < (x0_1.length : Int) := of_decide_eq_true (by first | (with_reducible assumption) | assumption)
              obtain ⟨ad133, e133, hx133_0⟩ := Kd.at_int (Kd.V_reads' HO_0.out).2.2 1 p133 q133
              obtain rfl : ad131 = ad133 := (by injection e133)
              (try simp only [show (1 : Int).toNat = 1 from rfl, Nat.reduceMul, Nat.reduceEqDiff, Go.Addr.add, ↓reduceIte] at hx133_0)
              have qi133 : (1 < x0_1.length) = True := eq_true (by omega)
              (try rw [show ((1 : Int)).toNat = 1 from rfl] at hx133_0)
              replace p133 := eq_true p133
              replace q133 := eq_true q133
              have p134 : 0 ≤ (1 : Int) := (by omega)
              have q134 : 1 < (x0_1.length : Int) := of_decide_eq_true (by first | (with_reducible assumption) | assumption)
              obtain ⟨ad134, e134, hx134_0⟩ := Kd.at_int (Kd.V_reads' HO_0.out).2.2 1 p134 q134
              obtain rfl : ad131 = ad134 := (by injection e134)
              (try simp only [show (1 : Int).toNat = 1 from rfl, Nat.reduceMul, Nat.reduceEqDiff, Go.Addr.add, ↓reduceIte] at hx134_0)
              have qi134 : (1 < x0_1.length) = True := eq_true (by omega)
              (try rw [show ((1 : Int)).toNat = 1 from rfl] at hx134_0)
              replace p134 := eq_true p134
              replace q134 := eq_true q134
              go_wp2
              try rw [Exit.noGoto_ret]
              go_ret2
              exact ⟨_, by first | rfl | (simp [errW_none, errW_some] <;> rfl) | (simp [*, errW_none, errW_some] <;> rfl), by first | exact Kd.S_nil _ _ _ _ _ | exact Kd.N_nil _ _ _ _ _ | exact Kd.V_nil _ _ _ _ _ | exact Kd.Q_nil _ _ _ _ _ | exact Kd.R_nil _ _ _ _ _, by repeat (first | (with_reducible first | exact HB.out | apply below_alloc | apply pw_below_drewN | apply below_drew1) | exact HB.out)⟩
            ·
             rw [if_neg c36] at H
             have c36b0 : decide ((wrap64 ((x0_1.length : Int) - 2)) < (wrap64 (rd x0_1 1))) = false := decide_eq_false c36
             clear c36
             by_cases c42 : 2 ≤ (wrap64 (2 + (wrap64 (rd x0_1 1))))
             ·
              rw [if_pos c42] at H
              have c42b0 := eq_true c42
              have c42b1 : decide (2 ≤ (wrap64 (2 + (wrap64 (rd x0_1 1))))) = true := decide_eq_true c42
              by_cases c43 : (wrap64 (2 + (wrap64 (rd x0_1 1)))) ≤ (x0_1.length : Int)
              ·
               rw [if_pos c43] at H
               have c43b0 := eq_true c43
               have c43b1 : decide ((wrap64 (2 + (wrap64 (rd x0_1 1)))) ≤ (x0_1.length : Int)) = true := decide_eq_true c43
               obtain ⟨y137, hy137⟩ : ∃ y_ : List Int, y_ = ((x0_1.take ((wrap64 (2 + (wrap64 (rd x0_1 1)))) : Int).toNat).drop 2) := ⟨_, rfl⟩
               replace H : ((wire_One.f (rd x0_1 0) y137).bind fun bt142 => (if x4_1.length < 4398046511104 then (if 0 ≤ (wrap64 (2 + (wrap64 (rd x0_1 1)))) then (wire_Get.l0 k1 (x0_1.drop ((wrap64 (2 + (wrap64 (rd x0_1 1)))) : Int).toNat) (x4_1 ++ [(⟨bt142.1, bt142.2⟩ : S45)]) x5_1) else (none)) else (none))) = some (r1, r2) := by first | (rw [hy137]; with_reducible exact H) | (have H2_ := (Option.bind_some _ _).symm.trans H; rw [hy137]; with_reducible exact H2_) | (have H2_ := (Option.bind_some _ _).symm.trans H; with_reducible exact H2_) | with_reducible exact H | (rw [hy137]; exact H) | exact H
               have Ny137 := Aside0.mk hy137
               clear hy137
               replace H := Option.bind_eq_some_iff.mp H
               obtain ⟨⟨t142, t143⟩, A440, H⟩ := H
               replace H : (if x4_1.length < 4398046511104 then (if 0 ≤ (wrap64 (2 + (wrap64 (rd x0_1 1)))) then (wire_Get.l0 k1 (x0_1.drop ((wrap64 (2 + (wrap64 (rd x0_1 1)))) : Int).toNat) (x4_1 ++ [(⟨t142, t143⟩ : S45)]) x5_1) else (none)) else (none)) = some (r1, r2) := H
               have A44 := Aside0.mk A440
               clear A440
               by_cases c45 : x4_1.length < 4398046511104
               ·
                rw [if_pos c45] at H
                have LMc45 := Aside0.mk c45
                clear c45
                obtain ⟨y146, hy146⟩ : ∃ y_ : List (S45), y_ = (x4_1 ++ [(⟨t142, t143⟩ : S45)]) := ⟨_, rfl⟩
                replace H : (if 0 ≤ (wrap64 (2 + (wrap64 (rd x0_1 1)))) then (wire_Get.l0 k1 (x0_1.drop ((wrap64 (2 + (wrap64 (rd x0_1 1)))) : Int).toNat) y146 x5_1) else (none)) = some (r1, r2) := by first | (rw [hy146]; with_reducible exact H) | (have H2_ := (Option.bind_some _ _).symm.trans H; rw [hy146]; with_reducible exact H2_) | (have H2_ := (Option.bind_some _ _).symm.trans H; with_reducible exact H2_) | with_reducible exact H | (rw [hy146]; exact H) | exact H
                have Ny146 := Aside0.mk hy146
                clear hy146
                obtain ⟨ji46, hji46⟩ : ∃ j_ : Int, (wrap64 (2 + (wrap64 (rd x0_1 1)))) = j_ := ⟨_, rfl⟩
                replace H : (if 0 ≤ (ji46) then (wire_Get.l0 k1 (x0_1.drop ((ji46) : Int).toNat) y146 x5_1) else (none)) = some (r1, r2) := by first | (rw [hji46] at H; exact H) | (simp only [hji46] at H ⊢; exact H)
                (try rw [hji46] at c42b0)
                (try rw [hji46] at c42b1)
                (try rw [hji46] at c42)
                (try rw [hji46] at c43b0)
                (try rw [hji46] at c43b1)
                (try rw [hji46] at c43)
                (try rw [hji46] at Ny137)
                (try rw [hji46] at A44)
                have hji46w : (IntKind.i64.wrap (2 + (wrap64 (rd x0_1 1)))) = ji46 := (i64_w _).trans hji46
                by_cases c47 : 0 ≤ (ji46)
                ·
                 rw [if_pos c47] at H
                 have c47b0 := eq_true c47
                 have c47b1 : decide (0 ≤ (ji46)) = true := decide_eq_true c47
                 clear c47
                 have c48b0 := eq_true (of_decide_eq_true (by first | (with_reducible assumption) | assumption) : (ji46) ≤ (x0_1.length : Int))
                 obtain ⟨y149, hy149⟩ : ∃ y_ : List Int, y_ = (x0_1.drop ((ji46) : Int).toNat) := ⟨_, rfl⟩
                 replace H : (wire_Get.l0 k1 y149 y146 x5_1) = some (r1, r2) := by first | (rw [hy149]; with_reducible exact H) | (have H2_ := (Option.bind_some _ _).symm.trans H; rw [hy149]; with_reducible exact H2_) | (have H2_ := (Option.bind_some _ _).symm.trans H; with_reducible exact H2_) | with_reducible exact H | (rw [hy149]; exact H) | exact H
                 have Ny149 := Aside0.mk hy149
                 clear hy149
                 have H' := Aside0.mk H
                 clear H
                 obtain ⟨Ao49, co49, eo49⟩ := Kd.V_slice HO_0.out
                 subst eo49
                 obtain ⟨Ao50, co50, eo50⟩ := Kd.S_slice HO_4.out
                 subst eo50
                 have p131 : 0 ≤ (0 : Int) := (by omega)
                 have q131 : 0 < (x0_1.length : Int) := of_decide_eq_true (by first | (with_reducible assumption) | assumption)
                 obtain ⟨ad131, e131, hx131_0⟩ := Kd.at_int (Kd.V_reads' HO_0.out).2.2 0 p131 q131
                 cases e131
                 have qi131 : (0 < x0_1.length) = True := eq_true (by omega)
                 (try rw [show ((0 : Int)).toNat = 0 from rfl] at hx131_0)
                 (try rw [Addr.add_zero'] at hx131_0)
                 replace p131 := eq_true p131
                 replace q131 := eq_true q131
                 have p132 : 0 ≤ (0 : Int) := (by omega)
                 have q132 : 0 < (x0_1.length : Int) := of_decide_eq_true (by first | (with_reducible assumption) | assumption)
                 obtain ⟨ad132, e132, hx132_0⟩ := Kd.at_int (Kd.V_reads' HO_0.out).2.2 0 p132 q132
                 obtain rfl : ad131 = ad132 := (by injection e132)
                 have qi132 : (0 < x0_1.length) = True := eq_true (by omega)
                 (try rw [show ((0 : Int)).toNat = 0 from rfl] at hx132_0)
                 (try rw [Addr.add_zero'] at hx132_0)
                 replace p132 := eq_true p132
                 replace q132 := eq_true q132
                 have p133 : 0 ≤ (1 : Int) := (by omega)
                 have q133 : 1 < (x0_1.length : Int) := of_decide_eq_true (by first | (with_reducible assumption) | assumption)
                 obtain ⟨ad133, e133, hx133_0⟩ := Kd.at_int (Kd.V_reads' HO_0.out).2.2 1 p133 q133
                 obtain rfl : ad131 = ad133 := (by injection e133)
                 (try simp only [show (1 : Int).toNat = 1 from rfl, Nat.reduceMul, Nat.reduceEqDiff, Go.Addr.add, ↓reduceIte] at hx133_0)
                 have qi133 : (1 < x0_1.length) = True := eq_true (by omega)
                 (try rw [show ((1 : Int)).toNat = 1 from rfl] at hx133_0)
                 replace p133 := eq_true p133
                 replace q133 := eq_true q133
                 have p134 : 0 ≤ (1 : Int) := (by omega)
                 have q134 : 1 < (x0_1.length : Int) := of_decide_eq_true (by first | (with_reducible assumption) | assumption)
                 obtain ⟨ad134, e134, hx134_0⟩ := Kd.at_int (Kd.V_reads' HO_0.out).2.2 1 p134 q134
                 obtain rfl : ad131 = ad134 := (by injection e134)
                 (try simp only [show (1 : Int).toNat = 1 from rfl, Nat.reduceMul, Nat.reduceEqDiff, Go.Addr.add, ↓reduceIte] at hx134_0)
                 have qi134 : (1 < x0_1.length) = True := eq_true (by omega)
                 (try rw [show ((1 : Int)).toNat = 1 from rfl] at hx134_0)
                 replace p134 := eq_true p134
                 replace q134 := eq_true q134
                 have p135 : 0 ≤ (1 : Int) := (by omega)
                 have q135 : 1 < (x0_1.length : Int) := of_decide_eq_true (by first | (with_reducible assumption) | assumption)
                 obtain ⟨ad135, e135, hx135_0⟩ := Kd.at_int (Kd.V_reads' HO_0.out).2.2 1 p135 q135
                 obtain rfl : ad131 = ad135 := (by injection e135)
                 (try simp only [show (1 : Int).toNat = 1 from rfl, Nat.reduceMul, Nat.reduceEqDiff, Go.Addr.add, ↓reduceIte] at hx135_0)
                 have qi135 : (1 < x0_1.length) = True := eq_true (by omega)
                 (try rw [show ((1 : Int)).toNat = 1 from rfl] at hx135_0)
                 replace p135 := eq_true p135
                 replace q135 := eq_true q135
                 try go_wp2
                 have n0_ := Aside0.mk (Kd.V_drew HO_0.out)
                 have n1_ := Aside0.mk (Kd.S_drew HO_4.out)
                 have n2_ := Aside0.mk (below_drew1 HB.out)
                 clear HO_0
                 clear HO_4
                 clear HB
                 have HO_0 := n0_
                 have HO_4 := n1_
                 have HB := n2_
                 clear n0_ n1_ n2_
                 have p136 : 0 ≤ (0 : Int) := (by omega)
                 have q136 : 0 < (x0_1.length : Int) := of_decide_eq_true (by first | (with_reducible assumption) | assumption)
                 obtain ⟨ad136, e136, hx136_0⟩ := Kd.at_int (Kd.V_reads' HO_0.out).2.2 0 p136 q136
                 obtain rfl : ad131 = ad136 := (by injection e136)
                 have qi136 : (0 < x0_1.length) = True := eq_true (by omega)
                 (try rw [show ((0 : Int)).toNat = 0 from rfl] at hx136_0)
                 (try rw [Addr.add_zero'] at hx136_0)
                 replace p136 := eq_true p136
                 replace q136 := eq_true q136
                 have q52 : ((ji46) : Int) ≤ ((x0_1.length : Int) : Int) := of_decide_eq_true (by first | (with_reducible assumption) | assumption)
                 obtain ⟨i052, hi052, _, hsz52, _⟩ := info_parts info22
                 have hroom52 : x0_1.length ≤ co49 := (Kd.V_reads' HO_0.out).2.1
                 have hC52 : Kd.F (Kd.int .u32) _ _ (some ad131) x0_1.length x0_1 := (Kd.V_at (base := w.heap.size) HO_0.out).2.2
                 have ql52 : (2 : Int) ≤ ((ji46) : Int) := of_decide_eq_true (by first | (with_reducible assumption) | assumption)
                 have hcut52 := cut_mid (P := Tryd.prog) 26 22 .i64 .i64 Tryd.underlying26 hi052 1 hsz52 (some ad131) x0_1.length co49 2 (ji46) (by omega) ql52 q52 hroom52
                 have hr52 := Kd.F_mid (lo := (2 : Int).toNat) (hi := ((ji46) : Int).toNat) (c := co49) hC52 (by omega) (by omega) hroom52
                 obtain ⟨A52, hA52⟩ : ∃ A1, A1 = (if co49 = (2 : Int).toNat then (some ad131) else ((some ad131) : Option Addr).map (·.add ((2 : Int).toNat * 1))) := ⟨_, rfl⟩
                 obtain ⟨c52, hc52⟩ : ∃ c1, c1 = co49 - (2 : Int).toNat := ⟨_, rfl⟩
                 have hy52 : y137.length = ((ji46) : Int).toNat - (2 : Int).toNat := (by rw [Ny137.out, List.length_drop, List.length_take] <;> omega)
                 rw [show ((x0_1).take ((ji46) : Int).toNat).drop (2 : Int).toNat = y137 from Ny137.out.symm] at hr52
                 replace hr52 : Kd.F (Kd.int .u32) _ _ A52 y137.length y137 := (by rw [hA52]; exact hr52)
                 rw [← hy52, ← hA52, ← hc52] at hcut52
                 have HO141 := Aside0.mk (show Kd.V (Kd.int .u32) 22 _ w.heap.size _ (.slice A52 y137.length c52) y137 from Kd.V_mk (by rw [hy52, hc52]; exact Nat.sub_le_sub_right (Nat.le_trans (by omega) hroom52) _) hr52)
                 have HC141 := Aside0.mk (show y137.length ≤ c52 from by rw [hy52, hc52]; exact Nat.sub_le_sub_right (Nat.le_trans (by omega) hroom52) _)
                 clear hr52 hC52 hroom52 hi052 hsz52 hc52
                 have KY52 := Aside0.mk hy52
                 have KA52 := Aside0.mk hA52
                 clear hy52 hA52
                 replace q52 := eq_true q52
                 refine start_ (n := 11) (S := fun w' => w'.cell? ad131 = some (.int .u32 (rd x0_1 0))) (ds := [8, 9]) #[Z,Z,Z,Z,Z,Z,Z,Z,Z,Z,Z] (by kernel_rfl) rfl rfl (hx136_0) (fun hHeld => ?_); refine with_tabW wire_Get.tab11 wire_Get.bits11 (fun HT_ HW_ => ?_)
                 generalize wr.drew = w51 at HO_0 HO_4 HB HO141 hx136_0 hHeld ⊢
                 refine pure_ (i := 0) (N := some 54) (v := ?_) (a' := ?_) #[Y,Z,Z,Z,Z,Z,Z,Z,Z,Z,Z] rfl rfl (any_of HT_.out (by kernel_rfl)) (fun _ _ _ h => h) (Or.inl ⟨by rfl, ?_⟩) ?_ ?_
                 rotate_left
                 ·
                  intro w'
                  go_simp
                  with_reducible rfl
                 rotate_left
                 ·
                  simp only [Act.put, List.setIfInBounds_toArray, List.set_cons_zero, List.set_cons_succ, i64_w, i32_w]
                  rfl
                 refine pure_ (i := 1) (N := some 55) (v := ?_) (a' := ?_) #[Y,Y,Z,Z,Z,Z,Z,Z,Z,Z,Z] rfl rfl (any_of HT_.out (by kernel_rfl)) (fun _ _ _ h => h) (Or.inl ⟨by rfl, ?_⟩) ?_ ?_
                 rotate_left
                 ·
                  intro w'
                  go_simp
                  with_reducible rfl
                 rotate_left
                 ·
                  simp only [Act.put, List.setIfInBounds_toArray, List.set_cons_zero, List.set_cons_succ, i64_w, i32_w]
                  rfl
                 refine pure_ (i := 2) (N := some 56) (v := ?_) (a' := ?_) #[Y,Y,Y,Z,Z,Z,Z,Z,Z,Z,Z] rfl rfl (any_of HT_.out (by kernel_rfl)) (fun _ _ _ h => h) (Or.inl ⟨by rfl, ?_⟩) ?_ ?_
                 rotate_left
                 ·
                  intro w'
                  go_simp
                  with_reducible rfl
                 rotate_left
                 ·
                  simp only [Act.put, List.setIfInBounds_toArray, List.set_cons_zero, List.set_cons_succ, i64_w, i32_w]
                  rfl
                 refine pure_ (i := 4) (N := some 58) (v := ?_) (a' := ?_) #[Y,Y,Y,Z,Y,Z,Z,Z,Z,Z,Z] rfl rfl (any_of HT_.out (by kernel_rfl)) (fun _ _ _ h => h) (Or.inl ⟨by rfl, ?_⟩) ?_ ?_
                 rotate_left
                 ·
                  intro w'
                  go_simp
                  with_reducible rfl
                 rotate_left
                 ·
                  simp only [Act.put, List.setIfInBounds_toArray, List.set_cons_zero, List.set_cons_succ, i64_w, i32_w]
                  rfl
                 refine pure_ (i := 5) (N := some 59) (v := ?_) (a' := ?_) #[Y,Y,Y,Z,Y,Y,Z,Z,Z,Z,Z] rfl rfl (any_of HT_.out (by kernel_rfl)) (fun _ _ _ h => h) (Or.inl ⟨by rfl, ?_⟩) ?_ ?_
                 rotate_left
                 ·
                  intro w'
                  go_simp
                  with_reducible rfl
                 rotate_left
                 ·
                  simp only [Act.put, List.setIfInBounds_toArray, List.set_cons_zero, List.set_cons_succ, i64_w, i32_w]
                  rfl
                 refine pure_ (i := 6) (N := some 60) (v := ?_) (a' := ?_) #[Y,Y,Y,Z,Y,Y,Y,Z,Z,Z,Z] rfl rfl (any_of HT_.out (by kernel_rfl)) (fun _ _ _ h => h) (Or.inl ⟨by rfl, ?_⟩) ?_ ?_
                 rotate_left
                 ·
                  intro w'
                  go_simp
                  with_reducible rfl
                 rotate_left
                 ·
                  simp only [Act.put, List.setIfInBounds_toArray, List.set_cons_zero, List.set_cons_succ, i64_w, i32_w]
                  rfl
                 refine take_ (i := 3) (N := some 57) (v := ?_) (a' := ?_) #[Y,Y,Y,Y,Y,Y,Y,Z,Z,Z,Z] rfl rfl (take_ofW HT_.out HW_.out (by kernel_rfl)) (fun _ _ _ h => h) (Or.inl ⟨by rfl, ?_⟩) hHeld ?_ ?_
                 rotate_left
                 ·
                  intro w' s0
                  go_simp
                  with_reducible rfl
                 rotate_left
                 ·
                  simp only [Act.put, List.setIfInBounds_toArray, List.set_cons_zero, List.set_cons_succ, i64_w, i32_w]
                  rfl
                 refine one_ (i := 7) (N := some 61) #[Y,Y,Y,Y,Y,Y,Y,Y,Z,Z,Z] rfl rfl (one_of HT_.out (by kernel_rfl)) (by decide) (fun K hK => ?_)
                 refine goes_ Tryd.func18 (by kernel_rfl) rfl #[.int .u32 (rd x0_1 0), .slice A52 y137.length c52] (by rfl) rfl rfl (by (try simp only [List.map_toArray, List.map_cons, List.map_nil]); first | done | rfl | (simp only [List.length_drop, List.length_take]; rfl)) ?_
                 with_reducible refine (wire_One.calls (rd x0_1 0) _ _ y137 t142 t143 _ ?side1 ?side2 A44.out).mono ?_
                 (case side1 => repeat (first | exact (Kd.V_reads' HO141.out).2.2 | (with_reducible refine Kd.C_alloc ?_ _) | (with_reducible refine Kd.C_drewN ?_ _) | (with_reducible refine Kd.C_drew ?_)))
                 (case side2 => exact (Kd.V_reads' HO141.out).2.1)
                 rintro e w53 ⟨v144, rfl, ho0, hb⟩
                 have HS0_ := (hb.cell (World.block_lt_of_cell? _ _ (hHeld))).trans (hHeld)
                 refine ⟨_, rfl, ?_⟩
                 have n0_ := Aside0.mk (Kd.V_elder' (by (with_reducible repeat (first | apply Kd.V_alloc | apply Kd.V_drewN | apply Kd.V_drew)); exact HO_0.out) (Kd.R_base ho0) hb)
                 have n1_ := Aside0.mk (Kd.S_elder' (by (with_reducible repeat (first | apply Kd.S_alloc | apply Kd.S_drewN | apply Kd.S_drew)); exact HO_4.out) (Kd.R_base ho0) hb)
                 have n2_ := Aside0.mk (Kd.V_elder' (by (with_reducible repeat (first | apply Kd.V_alloc | apply Kd.V_drewN | apply Kd.V_drew)); exact HO141.out) (Kd.R_base ho0) hb)
                 have n3_ := Aside0.mk (Kd.R_lower (Kd.R_newM (M := fun k_ => (w.heap.size ≤ k_)) ho0 (below_size (by repeat (first | (with_reducible first | exact HB.out | apply below_alloc | apply pw_below_drewN | apply below_drew1) | exact HB.out))) (fun k_ h_ => h_)) (below_size (by repeat (first | (with_reducible first | exact HB.out | apply below_alloc | apply pw_below_drewN | apply below_drew1) | exact HB.out))))
                 have n4_ := Aside0.mk (below_step (by repeat (first | (with_reducible first | exact HB.out | apply below_alloc | apply pw_below_drewN | apply below_drew1) | exact HB.out)) hb)
                 clear HO_0
                 clear HO_4
                 clear HO141
                 clear HB
                 have HO_0 := n0_
                 have HO_4 := n1_
                 have HO141 := n2_
                 have HO145 := n3_
                 have HB := n4_
                 clear n0_ n1_ n2_ n3_ n4_
                 (try clear hb)
                 (try clear hb2)
                 (try clear hk)
                 (try clear hi)
                 (try clear ho0)
                 obtain ⟨Ao55, co55, eo55⟩ := Kd.R_slice HO145.out
                 (first | subst eo55 | (injection eo55 with f1_ f2_ f3_; have f4_ := f1_.symm; have f5_ := f3_.symm; clear f1_ f2_ f3_; subst f4_; subst f5_))
                 refine hK.out _ _ (HS0_) (fun hHeld => ?_)
                 clear hK K
                 refine norm_ (a' := ?_) ?_ ?_
                 rotate_left
                 ·
                  show Act.put _ (some 61) _ = _
                  simp only [Act.put, List.setIfInBounds_toArray, List.set_cons_zero, List.set_cons_succ, i64_w, i32_w]
                  rfl
                 refine last_ (i := 8) (N := some 62) #[Y,Y,Y,Y,Y,Y,Y,Y,Y,Z,Z] rfl rfl (one_of HT_.out (by kernel_rfl)) (by decide) (fun K hK => ?_)
                 refine value_ (w1 := ?_) (v := ?_) (by rfl) rfl ?_ ?_
                 rotate_left 2
                 ·
                  go_simp
                  constructor
                  ·
                   rfl
                  ·
                   rfl
                 refine hK.out _ _ ?_
                 clear hK K
                 refine norm_ (a' := ?_) ?_ ?_
                 rotate_left
                 ·
                  show Act.put _ (some 62) _ = _
                  simp only [Act.put, List.setIfInBounds_toArray, List.set_cons_zero, List.set_cons_succ, i64_w, i32_w]
                  rfl
                 refine last_ (i := 9) (N := some 63) #[Y,Y,Y,Y,Y,Y,Y,Y,Y,Y,Z] rfl rfl (one_of HT_.out (by kernel_rfl)) (by decide) (fun K hK => ?_)
                 refine Kd.S_append_step k45 (w0 := w) w.heap.size (by rfl) (.tmp 54) (.tmp 62) 47 45 (.agg #[(.int .u32 0), (.slice none 0 0)]) 32 rfl Tryd.underlying47 info45 rfl (by decide) (by omega) (.slice Ao50 x4_1.length co50) x4_1 (⟨t142, t143⟩ : S45) [.int .u32 t142, .slice Ao55 t143.length co55] (fun k_ => (w.heap.size ≤ k_)) (fun k_ => some k_ = (.slice Ao55 t143.length co55 : Value).ownBlock) rfl rfl ?aP (fun k_ hk_ => ((Kd.R_mono (ok' := fun k_ => ((fun k_ => (w.heap.size ≤ k_))) k_ ∧ some k_ ≠ (.slice Ao50 x4_1.length co50 : Value).ownBlock) (Kd.R_apart' (HO145.out) (Kd.S_typed HO_4.out) (by decide)) (fun k_ hk => ⟨hk.1.1, hk.2⟩))).1 k_ hk_.symm) ?aF ?aO ?aB ?aS ?aL ?_
                 (case aP => exact k45_mkM _ _ _ (⟨t142, t143⟩ : S45) (Kd.R_mono (Kd.R_tight rfl (Kd.R_mono (ok' := fun k_ => ((fun k_ => (w.heap.size ≤ k_))) k_ ∧ some k_ ≠ (.slice Ao50 x4_1.length co50 : Value).ownBlock) (Kd.R_apart' (HO145.out) (Kd.S_typed HO_4.out) (by decide)) (fun k_ hk => ⟨hk.1.1, hk.2⟩))) (fun _ h_ => h_)))
                 (case aB => exact (by repeat (first | (with_reducible first | exact HB.out | apply below_alloc | apply pw_below_drewN | apply below_drew1) | exact HB.out)))
                 (case aF => exact (fun k_ hk => (Nat.le_trans (below_size (by repeat (first | (with_reducible first | exact HB.out | apply below_alloc | apply pw_below_drewN | apply below_drew1) | exact HB.out))) hk)))
                 (case aO => exact (by (with_reducible repeat (first | apply Kd.S_alloc | apply Kd.S_drewN | apply Kd.S_drew)); exact Kd.S_mono HO_4.out (fun k_ hk => ⟨hk.1, fun e_ => hk.2 e_⟩)))
                 (case aS => exact (below_size (by repeat (first | (with_reducible first | exact HB.out | apply below_alloc | apply pw_below_drewN | apply below_drew1) | exact HB.out))))
                 (case aL => have := LMc45.out; omega)
                 intro v147 w54 ho hb hg hat
                 rw [← Ny146.out] at ho
                 have n0_ := Aside0.mk (Kd.V_afterv (ok := (fun k_ => (P0_ k_ ∨ w.heap.size ≤ k_) ∧ some k_ ≠ (.slice Ao55 t143.length co55 : Value).ownBlock)) (by (with_reducible repeat (first | apply Kd.V_alloc | apply Kd.V_drewN | apply Kd.V_drew)); exact Kd.V_mono HO_0.out (fun _ hk => ⟨⟨hk.1.1, hk.2⟩, hk.1.2⟩)) hg hat)
                 have n1_ := Aside0.mk (Kd.V_afterv (ok := (fun k_ => (P0_ k_ ∨ w.heap.size ≤ k_) ∧ some k_ ≠ (.slice Ao55 t143.length co55 : Value).ownBlock)) (by (with_reducible repeat (first | apply Kd.V_alloc | apply Kd.V_drewN | apply Kd.V_drew)); exact Kd.V_mono HO141.out (fun _ hk => ⟨⟨hk.1.1, hk.2⟩, hk.1.2⟩)) hg hat)
                 have n2_ := Aside0.mk (hb)
                 have n3_ := Aside0.mk (ho)
                 clear HO_0
                 clear HO141
                 clear HB
                 clear HO_4
                 clear HO145
                 have HO_0 := n0_
                 have HO141 := n1_
                 have HB := n2_
                 have HO148 := n3_
                 clear n0_ n1_ n2_ n3_
                 clear ho hb hg hat
                 refine hK.out _ _ ?_
                 clear hK K
                 refine norm_ (a' := ?_) ?_ ?_
                 rotate_left
                 ·
                  show Act.put _ (some 63) _ = _
                  simp only [Act.put, List.setIfInBounds_toArray, List.set_cons_zero, List.set_cons_succ, i64_w, i32_w]
                  rfl
                 refine pure_ (i := 10) (N := some 4) (v := ?_) (a' := ?_) #[Y,Y,Y,Y,Y,Y,Y,Y,Y,Y,Y] rfl rfl (any_of HT_.out (by kernel_rfl)) (fun _ _ _ h => h) (Or.inl ⟨by rfl, ?_⟩) ?_ ?_
                 rotate_left
                 ·
                  intro w'
                  go_simp
                  with_reducible rfl
                 rotate_left
                 ·
                  simp only [Act.put, List.setIfInBounds_toArray, List.set_cons_zero, List.set_cons_succ, i64_w, i32_w]
                  rfl
                 refine done_ (done_of HT_.out (by kernel_rfl)) ?_
                 have q56 : ((ji46) : Int) ≤ ((x0_1.length : Int) : Int) := of_decide_eq_true (by first | (with_reducible assumption) | assumption)
                 obtain ⟨i056, hi056, _, hsz56, _⟩ := info_parts info22
                 have hroom56 : x0_1.length ≤ co49 := (Kd.V_reads' HO_0.out).2.1
                 have hC56 : Kd.F (Kd.int .u32) _ _ (some ad131) x0_1.length x0_1 := (Kd.V_at (base := w.heap.size) HO_0.out).2.2
                 have q056 : (0 : Int) ≤ ((ji46) : Int) := of_decide_eq_true (by first | (with_reducible assumption) | assumption)
                 have hcut56 := cut_from (P := Tryd.prog) 26 22 .i64 Tryd.underlying26 hi056 1 hsz56 (some ad131) x0_1.length co49 (ji46) q056 q56
                 have hr56 := Kd.F_cut (m := ((ji46) : Int).toNat) (c := co49) hC56 (by omega) hroom56
                 obtain ⟨A56, hA56⟩ : ∃ A1, A1 = (if co49 = ((ji46) : Int).toNat then (some ad131) else ((some ad131) : Option Addr).map (·.add (((ji46) : Int).toNat * 1))) := ⟨_, rfl⟩
                 obtain ⟨c56, hc56⟩ : ∃ c1, c1 = co49 - ((ji46) : Int).toNat := ⟨_, rfl⟩
                 have hy56 : y149.length = x0_1.length - ((ji46) : Int).toNat := (by rw [Ny149.out, List.length_drop] <;> omega)
                 rw [show (x0_1).drop ((ji46) : Int).toNat = y149 from Ny149.out.symm] at hr56
                 replace hr56 : Kd.F (Kd.int .u32) _ _ A56 y149.length y149 := (by rw [hA56]; exact hr56)
                 rw [← hy56, ← hA56, ← hc56] at hcut56
                 have HO153 := Aside0.mk (show Kd.V (Kd.int .u32) 22 _ w.heap.size _ (.slice A56 y149.length c56) y149 from Kd.V_mk (by rw [hy56, hc56]; exact Nat.sub_le_sub_right hroom56 _) hr56)
                 have HC153 := Aside0.mk (show y149.length ≤ c56 from by rw [hy56, hc56]; exact Nat.sub_le_sub_right hroom56 _)
                 clear hr56 hC56 hroom56 hi056 hsz56 hc56
                 have KY56 := Aside0.mk hy56
                 have KA56 := Aside0.mk hA56
                 clear hy56 hA56
                 replace q56 := eq_true q56
                 try go_wp2
                 go_roundg k1
                 case measure => have := HK1.out; omega
                 case rel => exact ⟨(y149), (y146), (x5_1), (by first | rfl | (simp; done) | (simp [*]; done)), H', ⟨by have := HK1.out; omega⟩, ⟨by (with_reducible repeat (first | apply Kd.V_alloc | apply Kd.V_drewN | apply Kd.V_drew)); exact Kd.V_mono HO153.out (fun _ hk => ⟨hk.1.1, hk.2⟩)⟩, ⟨by (with_reducible repeat (first | apply Kd.S_alloc | apply Kd.S_drewN | apply Kd.S_drew)); exact HO148.out⟩, ⟨by repeat (first | (with_reducible first | exact HB.out | apply below_alloc | apply pw_below_drewN | apply below_drew1) | exact HB.out)⟩⟩
                ·
                 rw [if_neg c47] at H
                 exact absurd H (by simp)
               ·
                rw [if_neg c45] at H
                exact absurd H (by simp)
              ·
               rw [if_neg c43] at H
               exact absurd H (by simp)
             ·
              rw [if_neg c42] at H
              exact absurd H (by simp)
          ·
           rw [if_neg c29] at H
           exact absurd H (by simp)
       ·
        rw [if_neg c16] at H
        exact absurd H (by simp)
    ·
     rw [if_neg c3] at H
     have c3b0 : decide (0 < (x0_1.length : Int)) = false := decide_eq_false c3
     have c3b1 : decide (0 < x0_1.length) = false := decide_eq_false (by omega)
     clear c3
     by_cases c57 : x5_1 = 0
     ·
      rw [if_pos c57] at H
      have c57b0 : (x5_1 == 0) = true := beq_iff_eq.mpr c57
      have c57b1 : (x5_1 != 0) = false := bne_eq_false_iff_eq.mpr c57
      clear c57
      simp only [Option.some.injEq, Prod.mk.injEq] at H
      obtain ⟨rfl, rfl⟩ := H
      obtain ⟨Ao58, co58, eo58⟩ := Kd.V_slice HO_0.out
      subst eo58
      go_wp2
      try rw [Exit.noGoto_ret]
      go_ret2
      exact ⟨_, by first | rfl | (simp [errW_none, errW_some] <;> rfl) | (simp [*, errW_none, errW_some] <;> rfl), by (with_reducible repeat (first | apply Kd.S_alloc | apply Kd.S_drewN | apply Kd.S_drew)); exact HO_4.out, by repeat (first | (with_reducible first | exact HB.out | apply below_alloc | apply pw_below_drewN | apply below_drew1) | exact HB.out)⟩
     ·
      rw [if_neg c57] at H
      have c57b0 : (x5_1 == 0) = false := beq_eq_false_iff_ne.mpr c57
      have c57b1 : (x5_1 != 0) = true := bne_iff_ne.mpr c57
      simp only [Option.some.injEq, Prod.mk.injEq] at H
      obtain ⟨rfl, rfl⟩ := H
      obtain ⟨Ao59, co59, eo59⟩ := Kd.V_slice HO_0.out
      subst eo59
      go_wp2
      try rw [Exit.noGoto_ret]
      go_ret2
      exact ⟨_, by first | rfl | (simp [errW_none, errW_some] <;> rfl) | (simp [*, errW_none, errW_some] <;> rfl), by first | exact Kd.S_nil _ _ _ _ _ | exact Kd.N_nil _ _ _ _ _ | exact Kd.V_nil _ _ _ _ _ | exact Kd.Q_nil _ _ _ _ _ | exact Kd.R_nil _ _ _ _ _, by repeat (first | (with_reducible first | exact HB.out | apply below_alloc | apply pw_below_drewN | apply below_drew1) | exact HB.out)⟩

/-! ### msg_Get: function 14 -/
/-- What the fields behind the first one come to, from a tag on. -/
def msg.res (k : Int) : Nat → List S45 → Int → Int → Int → Int → Int → Int → Int × Int × Int × Int × Int × Int × Int × Int
 | 0, fs, r, a, b, n, x, m => (match fs with
   | [] => (k, r, a, b, n, x, m, 0)
   | _ :: _ => (0, 0, 0, 0, 0, 0, 0, 2))
 | j + 1, fs, r, a, b, n, x, m => if 2 ≤ 7 - j ∧ msg.hasB k ((7 - j : Nat) : Int) = true then (match fs with
   | [] => (0, 0, 0, 0, 0, 0, 0, 2)
   | f :: ft => if f.f0 = ((7 - j : Nat) : Int) ∧ f.f1.length = 1 then msg.res k j ft (if 7 - j = 2 then rd f.f1 0 else r) (if 7 - j = 3 then rd f.f1 0 else a) (if 7 - j = 4 then rd f.f1 0 else b) (if 7 - j = 5 then rd f.f1 0 else n) (if 7 - j = 6 then rd f.f1 0 else x) (if 7 - j = 7 then rd f.f1 0 else m) else (0, 0, 0, 0, 0, 0, 0, 2)) else msg.res k j fs r a b n x m
theorem msg.res_succ (k : Int) (j : Nat) (fs : List S45) (r a b n x m : Int) : msg.res k (j + 1) fs r a b n x m = if 2 ≤ 7 - j ∧ msg.hasB k ((7 - j : Nat) : Int) = true then (match fs with
   | [] => (0, 0, 0, 0, 0, 0, 0, 2)
   | f :: ft => if f.f0 = ((7 - j : Nat) : Int) ∧ f.f1.length = 1 then msg.res k j ft (if 7 - j = 2 then rd f.f1 0 else r) (if 7 - j = 3 then rd f.f1 0 else a) (if 7 - j = 4 then rd f.f1 0 else b) (if 7 - j = 5 then rd f.f1 0 else n) (if 7 - j = 6 then rd f.f1 0 else x) (if 7 - j = 7 then rd f.f1 0 else m) else (0, 0, 0, 0, 0, 0, 0, 2)) else msg.res k j fs r a b n x m := rfl
def msg.top (fs : List S45) : Option (Int × Int × Int × Int × Int × Int × Int × Int) := match fs with
 | [] => some (0, 0, 0, 0, 0, 0, 0, 4)
 | f :: ft => if f.f0 = 1 ∧ f.f1.length = 1 ∧ 1 ≤ rd f.f1 0 ∧ rd f.f1 0 ≤ 9 then some (msg.res (rd f.f1 0) 8 ft 0 0 0 0 0 0) else some (0, 0, 0, 0, 0, 0, 0, 4)
def msg_Get.f (k : Nat) (l0 : List Int) : Option (Int × Int × Int × Int × Int × Int × Int × Int) := (wire_Get.f k l0).bind fun y => if y.2 = 0 then msg.top y.1 else some (0, 0, 0, 0, 0, 0, 0, y.2)
theorem msg_Get.mono : ∀ a0 k, LeO (msg_Get.f k a0) (msg_Get.f (k + 1) a0) := by
 intro a0 k
 unfold msg_Get.f
 exact LeO.bind (wire_Get.mono a0 k) (fun _ => LeO.refl _)
theorem msg.cut (A : Option Addr) (n c : Nat) (h1 : 1 ≤ n) (h2 : n ≤ c) : ∀ W : World, (Instr.slice 47 (.slice A n c) (some (.int .i64 1)) none none).run Tryd.prog W = .ok (.slice (if c = 1 then A else A.map (·.add (1 * 2))) (n - 1) (c - 1)) W := by
 intro W
 have hu : Tryd.prog.underlying 47 = some (.slice (Tryd.prog.elem 47)) := by kernel_rfl
 have hs : ∀ W : World, (sizeOf (Tryd.prog.elem 47)).run Tryd.prog W = .ok 2 W := fun W => by kernel_rfl
 rw [run_slice_l W 47 A n c hu .i64 1 (by omega) (by omega), hs]
 simp [sliced, Result.andThen]
theorem msg.add0 (a : Addr) : a.add 0 = a := by unfold Addr.add; simp
/-- The first of a row of fields, read. -/
theorem msg.first {W : World} {base : Nat} {ok : Nat → Prop} {A : Option Addr} {c : Nat} {f : S45} {ft : List S45} {N : Nat} (h : Kd.V k45 45 W base ok (.slice A N c) (f :: ft)) :
  ∃ ad A1 c1, A = some ad ∧ W.cell? ad = some (.int .u32 f.f0) ∧ W.cell? (ad.add 0) = some (.int .u32 f.f0) ∧ W.cell? ⟨ad.block, ad.off + 1, none⟩ = some (.slice A1 f.f1.length c1) ∧ W.cell? ⟨(ad.add 0).block, (ad.add 0).off + 1, none⟩ = some (.slice A1 f.f1.length c1) ∧ (Kd.int .u32).C W A1 f.f1.length f.f1 := by
 obtain ⟨_, hc, hC⟩ := Kd.V_reads' h
 obtain ⟨ad, A1, c1, e, h0, h1, _, hi⟩ := at_T45 hC 0 (by decide) (by simp)
 have h0 : W.cell? (ad.add 0) = some (.int .u32 f.f0) := h0
 have h1 : W.cell? ⟨(ad.add 0).block, (ad.add 0).off + 1, none⟩ = some (.slice A1 f.f1.length c1) := h1
 have h0' := h0
 have h1' := h1
 rw [msg.add0] at h0' h1'
 exact ⟨ad, A1, c1, e, h0', h0, h1', h1, hi⟩
/-- The rest of a row of fields, cut. -/
theorem msg.rest {W : World} {base : Nat} {ok : Nat → Prop} {A : Option Addr} {c N : Nat} {f : S45} {ft : List S45} (h : Kd.V k45 45 W base ok (.slice A N c) (f :: ft)) :
  ∃ A', Kd.V k45 45 W base ok (.slice A' ft.length (c - 1)) ft ∧ ∀ W' : World, (Instr.slice 47 (.slice A N c) (some (.int .i64 1)) none none).run Tryd.prog W' = .ok (.slice A' ft.length (c - 1)) W' := by
 obtain ⟨hN, hc, hF⟩ := Kd.V_at h
 have hl : (f :: ft).length = ft.length + 1 := List.length_cons
 have hcut := Kd.F_cut (m := 1) (c := c) hF (by omega) (by omega)
 refine ⟨_, Kd.V_mk (by omega) hcut, fun W' => ?_⟩
 rw [msg.cut A N c (by omega) (by omega), show N - 1 = ft.length by omega]
 rfl
set_option maxHeartbeats 8000000 in
set_option maxRecDepth 100000 in
theorem msg_Get.calls (k : Nat) (A0 : Option Addr) (c0 : Nat) (l0 : List Int) (r1 : Int) (r2 : Int) (r3 : Int) (r4 : Int) (r5 : Int) (r6 : Int) (r7 : Int) (r8 : Int) (w : World) (hG : GH w) (hr0 : Kd.C (Kd.int .u32) w A0 l0.length l0) (hc0 : l0.length ≤ c0) (h : msg_Get.f k l0 = some (r1, r2, r3, r4, r5, r6, r7, r8)) :
  Calls Tryd.prog 14 #[.slice A0 l0.length c0] w fun e w' => e = .returned (.tuple #[.agg #[.int .u32 r1, .int .u32 r2, .int .u32 r3, .int .u32 r4, .int .u32 r5, .int .u32 r6, .int .u32 r7], .int .i64 r8]) ∧ Below w.heap.size w w' := by
 unfold msg_Get.f at h
 obtain ⟨⟨fs, er⟩, hg, h⟩ := Option.bind_eq_some_iff.mp h
 simp only at h
 have AG := Aside0.mk hg
 clear hg
 have F0 := Kd.C_F (Kd.heap_int .u32) hr0
 go_enter Tryd.func14, Tryd.ntmps14
 go_wp2_with (first | ((with_reducible refine gate_dst (N := 2) rfl ?_); refine box_event ?hg (N := 2) ?hd (cs := vA0) (t := 24) ?hr ?_; (case hd => rfl); (case hg => rfl); (case hr => first | (go_simp; done) | (go_simp; rfl)); intro gr hgr W0 BR HB; have HBgr : w.heap.size ≤ gr := Nat.le_of_eq hgr.symm; clear hgr; have kr0_ : W0.cell? ⟨gr, 0, none⟩ = some (.int .u32 0) := (blk_cell BR 0).trans rfl; have zkr0_ := blk_frozen BR 0; have kr1_ : W0.cell? ⟨gr, 1, none⟩ = some (.int .u32 0) := (blk_cell BR 1).trans rfl; have zkr1_ := blk_frozen BR 1; have kr2_ : W0.cell? ⟨gr, 2, none⟩ = some (.int .u32 0) := (blk_cell BR 2).trans rfl; have zkr2_ := blk_frozen BR 2; have kr3_ : W0.cell? ⟨gr, 3, none⟩ = some (.int .u32 0) := (blk_cell BR 3).trans rfl; have zkr3_ := blk_frozen BR 3; have kr4_ : W0.cell? ⟨gr, 4, none⟩ = some (.int .u32 0) := (blk_cell BR 4).trans rfl; have zkr4_ := blk_frozen BR 4; have kr5_ : W0.cell? ⟨gr, 5, none⟩ = some (.int .u32 0) := (blk_cell BR 5).trans rfl; have zkr5_ := blk_frozen BR 5; have kr6_ : W0.cell? ⟨gr, 6, none⟩ = some (.int .u32 0) := (blk_cell BR 6).trans rfl; have zkr6_ := blk_frozen BR 6))
 refine (wire_Get.calls k (fun _ => True) A0 c0 l0 fs er _ (Kd.V_mk hc0 (Kd.F_mono (Kd.F_below F0 HB) (fun _ _ => trivial))) AG.out).mono ?_
 rintro e W1 ⟨vf, rfl, hS, hb_⟩
 have hV : Kd.V k45 45 W1 0 (fun k => k ≠ gr ∧ k < W1.heap.size) vf fs := Kd.V_mono (Kd.V_bound (Kd.S_V (base' := 0) hS)) (fun k hk => ⟨fun e_ => by have := blk_lt BR; have := hk.1; omega, hk.2⟩)
 obtain ⟨Af, cf, ev⟩ := Kd.V_slice hV
 subst ev
 clear hS
 have wgr : w.heap.size ≤ gr := HBgr
 replace BR := blk_below BR hb_
 replace HB := HB.trans (hb_.mono HB.size)
 clear hb_
 (try clear kr0_); (try clear zkr0_); (try clear kr1_); (try clear zkr1_); (try clear kr2_); (try clear zkr2_); (try clear kr3_); (try clear zkr3_); (try clear kr4_); (try clear zkr4_); (try clear kr5_); (try clear zkr5_); (try clear kr6_); (try clear zkr6_)
 have kr0_ : W1.cell? ⟨gr, 0, none⟩ = some (.int .u32 0) := (blk_cell BR 0).trans rfl; have zkr0_ := blk_frozen BR 0; have kr1_ : W1.cell? ⟨gr, 1, none⟩ = some (.int .u32 0) := (blk_cell BR 1).trans rfl; have zkr1_ := blk_frozen BR 1; have kr2_ : W1.cell? ⟨gr, 2, none⟩ = some (.int .u32 0) := (blk_cell BR 2).trans rfl; have zkr2_ := blk_frozen BR 2; have kr3_ : W1.cell? ⟨gr, 3, none⟩ = some (.int .u32 0) := (blk_cell BR 3).trans rfl; have zkr3_ := blk_frozen BR 3; have kr4_ : W1.cell? ⟨gr, 4, none⟩ = some (.int .u32 0) := (blk_cell BR 4).trans rfl; have zkr4_ := blk_frozen BR 4; have kr5_ : W1.cell? ⟨gr, 5, none⟩ = some (.int .u32 0) := (blk_cell BR 5).trans rfl; have zkr5_ := blk_frozen BR 5; have kr6_ : W1.cell? ⟨gr, 6, none⟩ = some (.int .u32 0) := (blk_cell BR 6).trans rfl; have zkr6_ := blk_frozen BR 6
 by_cases he : er = 0
 rotate_left
 ·
  rw [if_neg he] at h
  simp only [Option.some.injEq, Prod.mk.injEq] at h
  obtain ⟨rfl, rfl, rfl, rfl, rfl, rfl, rfl, rfl⟩ := h
  have e1 : (er != 0) = true := bne_iff_ne.mpr he
  have e2 : (er == 0) = false := beq_eq_false_iff_ne.mpr he
  clear he hV
  go_wp2_with (first | ((with_reducible refine gate_store (t := 24) (p := 2) rfl ?_); refine store_event (t := 24) (p := 2) (v := ?voe1_) (w1 := (((((((W1.setCell ⟨gr, 0, none⟩ (.int .u32 0)).setCell ⟨gr, 1, none⟩ (.int .u32 0)).setCell ⟨gr, 2, none⟩ (.int .u32 0)).setCell ⟨gr, 3, none⟩ (.int .u32 0)).setCell ⟨gr, 4, none⟩ (.int .u32 0)).setCell ⟨gr, 5, none⟩ (.int .u32 0)).setCell ⟨gr, 6, none⟩ (.int .u32 0))) ?hg ?ho ?hn ?hr ?_; (case ho => rfl); (case hg => rfl); (case hn => rfl); (case hr => first | (go_simp; done) | (go_simp; rfl)); intro W2 hw; have BR_ := (by rw [hw]; exact bp7_ BR : W2.heap[gr]? = some (.cells vA0 24 (0, 0))); have HB_ := (by rw [hw]; exact (below_set (below_set (below_set (below_set (below_set (below_set (below_set HB wgr) wgr) wgr) wgr) wgr) wgr) wgr) : Below w.heap.size w W2); clear hw HB BR; have HB := HB_; have BR := BR_; clear HB_ BR_; (try clear kr0_); (try clear zkr0_); (try clear kr1_); (try clear zkr1_); (try clear kr2_); (try clear zkr2_); (try clear kr3_); (try clear zkr3_); (try clear kr4_); (try clear zkr4_); (try clear kr5_); (try clear zkr5_); (try clear kr6_); (try clear zkr6_)))
  refine bodyPost_ret (results_ct rfl _ _ gr 24 vA0 (0, 0) _ rfl BR Tryd.underlying24 rfl (by kernel_rfl)) rfl ?_
  exact ⟨rfl, HB⟩
 subst he
 rw [if_pos rfl] at h
 cases fs with
 | nil =>
  unfold msg.top at h
  simp only [Option.some.injEq, Prod.mk.injEq] at h
  obtain ⟨rfl, rfl, rfl, rfl, rfl, rfl, rfl, rfl⟩ := h
  simp only [List.length_nil]
  go_wp2_with (first | ((with_reducible refine gate_store (t := 24) (p := 2) rfl ?_); refine store_event (t := 24) (p := 2) (v := ?voe2_) (w1 := (((((((W1.setCell ⟨gr, 0, none⟩ (.int .u32 0)).setCell ⟨gr, 1, none⟩ (.int .u32 0)).setCell ⟨gr, 2, none⟩ (.int .u32 0)).setCell ⟨gr, 3, none⟩ (.int .u32 0)).setCell ⟨gr, 4, none⟩ (.int .u32 0)).setCell ⟨gr, 5, none⟩ (.int .u32 0)).setCell ⟨gr, 6, none⟩ (.int .u32 0))) ?hg ?ho ?hn ?hr ?_; (case ho => rfl); (case hg => rfl); (case hn => rfl); (case hr => first | (go_simp; done) | (go_simp; rfl)); intro W3 hw; have BR_ := (by rw [hw]; exact bp7_ BR : W3.heap[gr]? = some (.cells vA0 24 (0, 0))); have HB_ := (by rw [hw]; exact (below_set (below_set (below_set (below_set (below_set (below_set (below_set HB wgr) wgr) wgr) wgr) wgr) wgr) wgr) : Below w.heap.size w W3); clear hw HB BR; have HB := HB_; have BR := BR_; clear HB_ BR_; (try clear kr0_); (try clear zkr0_); (try clear kr1_); (try clear zkr1_); (try clear kr2_); (try clear zkr2_); (try clear kr3_); (try clear zkr3_); (try clear kr4_); (try clear zkr4_); (try clear kr5_); (try clear zkr5_); (try clear kr6_); (try clear zkr6_)))
  refine bodyPost_ret (results_ct rfl _ _ gr 24 vA0 (0, 0) _ rfl BR Tryd.underlying24 rfl (by kernel_rfl)) rfl ?_
  exact ⟨rfl, HB⟩
 | cons f ft =>
 dsimp only [msg.top] at h
 obtain ⟨ad, A1, c1, eA, hx0, hx0', hx1, hx1', hi1⟩ := msg.first hV
 subst eA
 obtain ⟨N, hN⟩ : ∃ N, N = (f :: ft).length := ⟨_, rfl⟩
 rw [← hN] at hV ⊢
 have hNp : 1 ≤ N := by rw [hN, List.length_cons]; omega
 have n0 : ((N : Int) == 0) = false := beq_eq_false_iff_ne.mpr (by omega)
 have n1 : (N == 0) = false := beq_eq_false_iff_ne.mpr (by omega)
 have n2 : decide (N = 0) = false := decide_eq_false (by omega)
 have n3 : (0 < N) = True := eq_true (by omega)
 have n4 : ((0 : Int) < (N : Int)) = True := eq_true (by omega)
 clear hN
 by_cases c1_ : f.f0 = 1
 rotate_left
 ·
  have hno : ¬ (f.f0 = 1 ∧ f.f1.length = 1 ∧ 1 ≤ rd f.f1 0 ∧ rd f.f1 0 ≤ 9) := fun q => by have := q.1; have := q.2.1; have := q.2.2.1; have := q.2.2.2; omega
  rw [if_neg hno] at h
  simp only [Option.some.injEq, Prod.mk.injEq] at h
  obtain ⟨rfl, rfl, rfl, rfl, rfl, rfl, rfl, rfl⟩ := h
  have e1 : (f.f0 != 1) = true := bne_iff_ne.mpr c1_
  have e2 : (f.f0 == 1) = false := beq_eq_false_iff_ne.mpr c1_
  clear hno hV
  go_wp2_with (first | ((with_reducible refine gate_store (t := 24) (p := 2) rfl ?_); refine store_event (t := 24) (p := 2) (v := ?voe3_) (w1 := (((((((W1.setCell ⟨gr, 0, none⟩ (.int .u32 0)).setCell ⟨gr, 1, none⟩ (.int .u32 0)).setCell ⟨gr, 2, none⟩ (.int .u32 0)).setCell ⟨gr, 3, none⟩ (.int .u32 0)).setCell ⟨gr, 4, none⟩ (.int .u32 0)).setCell ⟨gr, 5, none⟩ (.int .u32 0)).setCell ⟨gr, 6, none⟩ (.int .u32 0))) ?hg ?ho ?hn ?hr ?_; (case ho => rfl); (case hg => rfl); (case hn => rfl); (case hr => first | (go_simp; done) | (go_simp; rfl)); intro W4 hw; have BR_ := (by rw [hw]; exact bp7_ BR : W4.heap[gr]? = some (.cells vA0 24 (0, 0))); have HB_ := (by rw [hw]; exact (below_set (below_set (below_set (below_set (below_set (below_set (below_set HB wgr) wgr) wgr) wgr) wgr) wgr) wgr) : Below w.heap.size w W4); clear hw HB BR; have HB := HB_; have BR := BR_; clear HB_ BR_; (try clear kr0_); (try clear zkr0_); (try clear kr1_); (try clear zkr1_); (try clear kr2_); (try clear zkr2_); (try clear kr3_); (try clear zkr3_); (try clear kr4_); (try clear zkr4_); (try clear kr5_); (try clear zkr5_); (try clear kr6_); (try clear zkr6_)))
  refine bodyPost_ret (results_ct rfl _ _ gr 24 vA0 (0, 0) _ rfl BR Tryd.underlying24 rfl (by kernel_rfl)) rfl ?_
  exact ⟨rfl, HB⟩
 rw [c1_] at hx0 hx0'
 by_cases c2_ : f.f1.length = 1
 rotate_left
 ·
  have hno : ¬ (f.f0 = 1 ∧ f.f1.length = 1 ∧ 1 ≤ rd f.f1 0 ∧ rd f.f1 0 ≤ 9) := fun q => by have := q.1; have := q.2.1; have := q.2.2.1; have := q.2.2.2; omega
  rw [if_neg hno] at h
  simp only [Option.some.injEq, Prod.mk.injEq] at h
  obtain ⟨rfl, rfl, rfl, rfl, rfl, rfl, rfl, rfl⟩ := h
  have e1 : ((f.f1.length : Int) != 1) = true := bne_iff_ne.mpr (by omega)
  have e2 : (f.f1.length == 1) = false := beq_eq_false_iff_ne.mpr c2_
  have e3 : ((f.f1.length : Int) == 1) = false := beq_eq_false_iff_ne.mpr (by omega)
  have e4 : (f.f1.length != 1) = true := bne_iff_ne.mpr c2_
  clear hno hV
  go_wp2_with (first | ((with_reducible refine gate_store (t := 24) (p := 2) rfl ?_); refine store_event (t := 24) (p := 2) (v := ?voe4_) (w1 := (((((((W1.setCell ⟨gr, 0, none⟩ (.int .u32 0)).setCell ⟨gr, 1, none⟩ (.int .u32 0)).setCell ⟨gr, 2, none⟩ (.int .u32 0)).setCell ⟨gr, 3, none⟩ (.int .u32 0)).setCell ⟨gr, 4, none⟩ (.int .u32 0)).setCell ⟨gr, 5, none⟩ (.int .u32 0)).setCell ⟨gr, 6, none⟩ (.int .u32 0))) ?hg ?ho ?hn ?hr ?_; (case ho => rfl); (case hg => rfl); (case hn => rfl); (case hr => first | (go_simp; done) | (go_simp; rfl)); intro W4 hw; have BR_ := (by rw [hw]; exact bp7_ BR : W4.heap[gr]? = some (.cells vA0 24 (0, 0))); have HB_ := (by rw [hw]; exact (below_set (below_set (below_set (below_set (below_set (below_set (below_set HB wgr) wgr) wgr) wgr) wgr) wgr) wgr) : Below w.heap.size w W4); clear hw HB BR; have HB := HB_; have BR := BR_; clear HB_ BR_; (try clear kr0_); (try clear zkr0_); (try clear kr1_); (try clear zkr1_); (try clear kr2_); (try clear zkr2_); (try clear kr3_); (try clear zkr3_); (try clear kr4_); (try clear zkr4_); (try clear kr5_); (try clear zkr5_); (try clear kr6_); (try clear zkr6_)))
  refine bodyPost_ret (results_ct rfl _ _ gr 24 vA0 (0, 0) _ rfl BR Tryd.underlying24 rfl (by kernel_rfl)) rfl ?_
  exact ⟨rfl, HB⟩
 rw [c2_] at hx1 hx1'
 obtain ⟨ad1, e1A, hy⟩ := Kd.at_int hi1 0 (by decide) (by rw [c2_]; decide)
 subst e1A
 obtain ⟨v, hv⟩ : ∃ v, v = rd f.f1 0 := ⟨_, rfl⟩
 rw [← hv] at hy h
 have hy : W1.cell? (ad1.add 0) = some (.int .u32 v) := hy
 have hy' : W1.cell? ad1 = some (.int .u32 v) := msg.add0 ad1 ▸ hy
 clear hi1
 by_cases c3_ : v < 1
 ·
  have hno : ¬ (f.f0 = 1 ∧ f.f1.length = 1 ∧ 1 ≤ v ∧ v ≤ 9) := fun q => by have := q.2.2.1; have := q.2.2.2; omega
  rw [if_neg hno] at h
  simp only [Option.some.injEq, Prod.mk.injEq] at h
  obtain ⟨rfl, rfl, rfl, rfl, rfl, rfl, rfl, rfl⟩ := h
  have e1 : decide (v < 1) = true := decide_eq_true c3_
  clear hno hV
  go_wp2_with (first | ((with_reducible refine gate_store (t := 24) (p := 2) rfl ?_); refine store_event (t := 24) (p := 2) (v := ?voe5_) (w1 := (((((((W1.setCell ⟨gr, 0, none⟩ (.int .u32 0)).setCell ⟨gr, 1, none⟩ (.int .u32 0)).setCell ⟨gr, 2, none⟩ (.int .u32 0)).setCell ⟨gr, 3, none⟩ (.int .u32 0)).setCell ⟨gr, 4, none⟩ (.int .u32 0)).setCell ⟨gr, 5, none⟩ (.int .u32 0)).setCell ⟨gr, 6, none⟩ (.int .u32 0))) ?hg ?ho ?hn ?hr ?_; (case ho => rfl); (case hg => rfl); (case hn => rfl); (case hr => first | (go_simp; done) | (go_simp; rfl)); intro W5 hw; have BR_ := (by rw [hw]; exact bp7_ BR : W5.heap[gr]? = some (.cells vA0 24 (0, 0))); have HB_ := (by rw [hw]; exact (below_set (below_set (below_set (below_set (below_set (below_set (below_set HB wgr) wgr) wgr) wgr) wgr) wgr) wgr) : Below w.heap.size w W5); clear hw HB BR; have HB := HB_; have BR := BR_; clear HB_ BR_; (try clear kr0_); (try clear zkr0_); (try clear kr1_); (try clear zkr1_); (try clear kr2_); (try clear zkr2_); (try clear kr3_); (try clear zkr3_); (try clear kr4_); (try clear zkr4_); (try clear kr5_); (try clear zkr5_); (try clear kr6_); (try clear zkr6_)))
  refine bodyPost_ret (results_ct rfl _ _ gr 24 vA0 (0, 0) _ rfl BR Tryd.underlying24 rfl (by kernel_rfl)) rfl ?_
  exact ⟨rfl, HB⟩
 have e3_ : decide (v < 1) = false := decide_eq_false c3_
 by_cases c4_ : 9 < v
 ·
  have hno : ¬ (f.f0 = 1 ∧ f.f1.length = 1 ∧ 1 ≤ v ∧ v ≤ 9) := fun q => by have := q.2.2.1; have := q.2.2.2; omega
  rw [if_neg hno] at h
  simp only [Option.some.injEq, Prod.mk.injEq] at h
  obtain ⟨rfl, rfl, rfl, rfl, rfl, rfl, rfl, rfl⟩ := h
  have e1 : decide (9 < v) = true := decide_eq_true c4_
  have e2 : decide (v > 9) = true := decide_eq_true c4_
  clear hno hV
  go_wp2_with (first | ((with_reducible refine gate_store (t := 24) (p := 2) rfl ?_); refine store_event (t := 24) (p := 2) (v := ?voe6_) (w1 := (((((((W1.setCell ⟨gr, 0, none⟩ (.int .u32 0)).setCell ⟨gr, 1, none⟩ (.int .u32 0)).setCell ⟨gr, 2, none⟩ (.int .u32 0)).setCell ⟨gr, 3, none⟩ (.int .u32 0)).setCell ⟨gr, 4, none⟩ (.int .u32 0)).setCell ⟨gr, 5, none⟩ (.int .u32 0)).setCell ⟨gr, 6, none⟩ (.int .u32 0))) ?hg ?ho ?hn ?hr ?_; (case ho => rfl); (case hg => rfl); (case hn => rfl); (case hr => first | (go_simp; done) | (go_simp; rfl)); intro W5 hw; have BR_ := (by rw [hw]; exact bp7_ BR : W5.heap[gr]? = some (.cells vA0 24 (0, 0))); have HB_ := (by rw [hw]; exact (below_set (below_set (below_set (below_set (below_set (below_set (below_set HB wgr) wgr) wgr) wgr) wgr) wgr) wgr) : Below w.heap.size w W5); clear hw HB BR; have HB := HB_; have BR := BR_; clear HB_ BR_; (try clear kr0_); (try clear zkr0_); (try clear kr1_); (try clear zkr1_); (try clear kr2_); (try clear zkr2_); (try clear kr3_); (try clear zkr3_); (try clear kr4_); (try clear zkr4_); (try clear kr5_); (try clear zkr5_); (try clear kr6_); (try clear zkr6_)))
  refine bodyPost_ret (results_ct rfl _ _ gr 24 vA0 (0, 0) _ rfl BR Tryd.underlying24 rfl (by kernel_rfl)) rfl ?_
  exact ⟨rfl, HB⟩
 have e4_ : decide (9 < v) = false := decide_eq_false c4_
 have e5_ : decide (v > 9) = false := decide_eq_false c4_
 rw [if_pos ⟨c1_, c2_, by omega, by omega⟩] at h
 have hres := Option.some.inj h
 have hk : 0 ≤ v ∧ v ≤ 9 := by omega
 clear h
 obtain ⟨Ar, hVr, HCut⟩ := msg.rest hV
 obtain ⟨cr, hcr⟩ : ∃ cr, cr = cf - 1 := ⟨_, rfl⟩
 rw [← hcr] at hVr HCut
 clear hcr hV
 go_wp2_with (first | ((with_reducible refine gate_dst (N := 6) rfl ?_); refine box_event ?hg (N := 6) ?hd (cs := vA0) (t := 24) ?hr ?_; (case hd => rfl); (case hg => rfl); (case hr => first | (go_simp; done) | (go_simp; rfl)); intro gm hgm W6 BM hb_; have wgm : W1.heap.size ≤ gm := Nat.le_of_eq hgm.symm; have lrm : gr < gm := (by rw [hgm]; exact blk_lt BR); have HC : Below W1.heap.size W1 W6 := hb_; clear hgm hb_; have km0_ : W6.cell? ⟨gm, 0, none⟩ = some (.int .u32 0) := (blk_cell BM 0).trans rfl; have zkm0_ := blk_frozen BM 0; have km1_ : W6.cell? ⟨gm, 1, none⟩ = some (.int .u32 0) := (blk_cell BM 1).trans rfl; have zkm1_ := blk_frozen BM 1; have km2_ : W6.cell? ⟨gm, 2, none⟩ = some (.int .u32 0) := (blk_cell BM 2).trans rfl; have zkm2_ := blk_frozen BM 2; have km3_ : W6.cell? ⟨gm, 3, none⟩ = some (.int .u32 0) := (blk_cell BM 3).trans rfl; have zkm3_ := blk_frozen BM 3; have km4_ : W6.cell? ⟨gm, 4, none⟩ = some (.int .u32 0) := (blk_cell BM 4).trans rfl; have zkm4_ := blk_frozen BM 4; have km5_ : W6.cell? ⟨gm, 5, none⟩ = some (.int .u32 0) := (blk_cell BM 5).trans rfl; have zkm5_ := blk_frozen BM 5; have km6_ : W6.cell? ⟨gm, 6, none⟩ = some (.int .u32 0) := (blk_cell BM 6).trans rfl; have zkm6_ := blk_frozen BM 6) | ((with_reducible refine gate_store (t := 24) (p := 6) rfl ?_); refine store_event (t := 24) (p := 6) (v := ?vom_) (w1 := (((((((W6.setCell ⟨gm, 0, none⟩ (.int .u32 v)).setCell ⟨gm, 1, none⟩ (.int .u32 0)).setCell ⟨gm, 2, none⟩ (.int .u32 0)).setCell ⟨gm, 3, none⟩ (.int .u32 0)).setCell ⟨gm, 4, none⟩ (.int .u32 0)).setCell ⟨gm, 5, none⟩ (.int .u32 0)).setCell ⟨gm, 6, none⟩ (.int .u32 0))) ?hg ?ho ?hn ?hr ?_; (case ho => rfl); (case hg => rfl); (case hn => rfl); (case hr => first | (go_simp; done) | (go_simp; rfl)); intro W7 hw; have BM_ := (by rw [hw]; exact bp7_ BM : W7.heap[gm]? = some (.cells #[.int .u32 v, .int .u32 0, .int .u32 0, .int .u32 0, .int .u32 0, .int .u32 0, .int .u32 0] 24 (0, 0))); have HC_ := (by rw [hw]; exact (below_set (below_set (below_set (below_set (below_set (below_set (below_set HC wgm) wgm) wgm) wgm) wgm) wgm) wgm) : Below W1.heap.size W1 W7); clear hw HC BM; have BM := BM_; clear BM_; replace hVr := Kd.V_mono (ok' := fun k => k ≠ gm ∧ k ≠ gr) (Kd.V_below hVr HC_) (fun k hk => ⟨fun e_ => by have := hk.2; omega, hk.1⟩); replace BR := blk_below BR HC_; replace HB := HB.trans (HC_.mono HB.size); clear HC_; (try clear km0_); (try clear zkm0_); (try clear km1_); (try clear zkm1_); (try clear km2_); (try clear zkm2_); (try clear km3_); (try clear zkm3_); (try clear km4_); (try clear zkm4_); (try clear km5_); (try clear zkm5_); (try clear km6_); (try clear zkm6_); (try clear kr0_); (try clear zkr0_); (try clear kr1_); (try clear zkr1_); (try clear kr2_); (try clear zkr2_); (try clear kr3_); (try clear zkr3_); (try clear kr4_); (try clear zkr4_); (try clear kr5_); (try clear zkr5_); (try clear kr6_); (try clear zkr6_); have km0_ : W7.cell? ⟨gm, 0, none⟩ = some (.int .u32 v) := (blk_cell BM 0).trans rfl; have zkm0_ := blk_frozen BM 0; have km1_ : W7.cell? ⟨gm, 1, none⟩ = some (.int .u32 0) := (blk_cell BM 1).trans rfl; have zkm1_ := blk_frozen BM 1; have km2_ : W7.cell? ⟨gm, 2, none⟩ = some (.int .u32 0) := (blk_cell BM 2).trans rfl; have zkm2_ := blk_frozen BM 2; have km3_ : W7.cell? ⟨gm, 3, none⟩ = some (.int .u32 0) := (blk_cell BM 3).trans rfl; have zkm3_ := blk_frozen BM 3; have km4_ : W7.cell? ⟨gm, 4, none⟩ = some (.int .u32 0) := (blk_cell BM 4).trans rfl; have zkm4_ := blk_frozen BM 4; have km5_ : W7.cell? ⟨gm, 5, none⟩ = some (.int .u32 0) := (blk_cell BM 5).trans rfl; have zkm5_ := blk_frozen BM 5; have km6_ : W7.cell? ⟨gm, 6, none⟩ = some (.int .u32 0) := (blk_cell BM 6).trans rfl; have zkm6_ := blk_frozen BM 6) | (go_at_call 19; (with_reducible refine (msg_words.calls gm _).mono ?_); rintro e W8 ⟨rfl, hb_⟩; replace BM := blk_below BM hb_; replace BR := blk_below BR hb_; replace hVr := Kd.V_below hVr hb_; replace HB := HB.trans (hb_.mono HB.size); clear hb_; (try clear km0_); (try clear zkm0_); (try clear km1_); (try clear zkm1_); (try clear km2_); (try clear zkm2_); (try clear km3_); (try clear zkm3_); (try clear km4_); (try clear zkm4_); (try clear km5_); (try clear zkm5_); (try clear km6_); (try clear zkm6_); (try clear kr0_); (try clear zkr0_); (try clear kr1_); (try clear zkr1_); (try clear kr2_); (try clear zkr2_); (try clear kr3_); (try clear zkr3_); (try clear kr4_); (try clear zkr4_); (try clear kr5_); (try clear zkr5_); (try clear kr6_); (try clear zkr6_)))
 clear n0 n1 n2 n3 n4 hNp hx0 hx0' hx1 hx1' hy hy' c1_ c2_ c3_ c4_ e3_ e4_ e5_ HCut wgm hv
 go_loopg [4, 67] 9 (fun kq v4 v67 w' => ∃ (i : Nat) (fs : List S45) (A : Option Addr) (c : Nat) (m1 m2 m3 m4 m5 m6 : Int), v4 = .slice A fs.length c ∧ v67 = .int .i64 (i : Int) ∧ Aside0 (i + kq = 9) ∧ Aside0 (i ≤ 8) ∧ Aside0 (msg.res v (8 - i) fs m1 m2 m3 m4 m5 m6 = (r1, r2, r3, r4, r5, r6, r7, r8)) ∧ Aside0 (Kd.V k45 45 w' 0 (fun k => k ≠ gm ∧ k ≠ gr) (.slice A fs.length c) fs) ∧ Aside0 (w'.heap[gm]? = some (.cells #[.int .u32 v, .int .u32 m1, .int .u32 m2, .int .u32 m3, .int .u32 m4, .int .u32 m5, .int .u32 m6] 24 (0, 0))) ∧ Aside0 (w'.heap[gr]? = some (.cells vA0 24 (0, 0))) ∧ Aside0 (Below w.heap.size w w'))
 case atStart => exact ⟨0, ft, Ar, cr, 0, 0, 0, 0, 0, 0, rfl, rfl, ⟨Nat.zero_add _⟩, ⟨Nat.zero_le _⟩, ⟨hres⟩, ⟨hVr⟩, ⟨BM⟩, ⟨BR⟩, ⟨HB⟩⟩
 case round =>
  clear hres hVr BM BR HB
  obtain ⟨i, fs, A, c, m1, m2, m3, m4, m5, m6, rfl, rfl, HA, HL, HR, HV, HBM, HBR, HHB⟩ := hrel
  have BM := HBM.out
  have BR := HBR.out
  have HB := HHB.out
  have hV := HV.out
  clear HBM HBR HHB HV
  cases gk with
  | zero => have := HA.out; have := HL.out; omega
  | succ k2 =>
   have hi := HL.out
   have A1_ : i + 1 + k2 = 9 := by have := HA.out; omega
   have km0_ : wr.cell? ⟨gm, 0, none⟩ = some (.int .u32 v) := (blk_cell BM 0).trans rfl; have zkm0_ := blk_frozen BM 0; have km1_ : wr.cell? ⟨gm, 1, none⟩ = some (.int .u32 m1) := (blk_cell BM 1).trans rfl; have zkm1_ := blk_frozen BM 1; have km2_ : wr.cell? ⟨gm, 2, none⟩ = some (.int .u32 m2) := (blk_cell BM 2).trans rfl; have zkm2_ := blk_frozen BM 2; have km3_ : wr.cell? ⟨gm, 3, none⟩ = some (.int .u32 m3) := (blk_cell BM 3).trans rfl; have zkm3_ := blk_frozen BM 3; have km4_ : wr.cell? ⟨gm, 4, none⟩ = some (.int .u32 m4) := (blk_cell BM 4).trans rfl; have zkm4_ := blk_frozen BM 4; have km5_ : wr.cell? ⟨gm, 5, none⟩ = some (.int .u32 m5) := (blk_cell BM 5).trans rfl; have zkm5_ := blk_frozen BM 5; have km6_ : wr.cell? ⟨gm, 6, none⟩ = some (.int .u32 m6) := (blk_cell BM 6).trans rfl; have zkm6_ := blk_frozen BM 6
   have kr0_ : wr.cell? ⟨gr, 0, none⟩ = some (.int .u32 0) := (blk_cell BR 0).trans rfl; have zkr0_ := blk_frozen BR 0; have kr1_ : wr.cell? ⟨gr, 1, none⟩ = some (.int .u32 0) := (blk_cell BR 1).trans rfl; have zkr1_ := blk_frozen BR 1; have kr2_ : wr.cell? ⟨gr, 2, none⟩ = some (.int .u32 0) := (blk_cell BR 2).trans rfl; have zkr2_ := blk_frozen BR 2; have kr3_ : wr.cell? ⟨gr, 3, none⟩ = some (.int .u32 0) := (blk_cell BR 3).trans rfl; have zkr3_ := blk_frozen BR 3; have kr4_ : wr.cell? ⟨gr, 4, none⟩ = some (.int .u32 0) := (blk_cell BR 4).trans rfl; have zkr4_ := blk_frozen BR 4; have kr5_ : wr.cell? ⟨gr, 5, none⟩ = some (.int .u32 0) := (blk_cell BR 5).trans rfl; have zkr5_ := blk_frozen BR 5; have kr6_ : wr.cell? ⟨gr, 6, none⟩ = some (.int .u32 0) := (blk_cell BR 6).trans rfl; have zkr6_ := blk_frozen BR 6
   have hres := HR.out
   clear HR HA HL
   rcases Nat.lt_or_ge i 8 with c_ | c_
   rotate_left
   ·
    obtain rfl : i = 8 := by omega
    clear hi c_ A1_
    cases fs with
    | nil =>
     replace hres : (v, m1, m2, m3, m4, m5, m6, (0 : Int)) = (r1, r2, r3, r4, r5, r6, r7, r8) := hres
     simp only [Prod.mk.injEq] at hres
     obtain ⟨rfl, rfl, rfl, rfl, rfl, rfl, rfl, rfl⟩ := hres
     simp only [List.length_nil]
     go_wp2_with (first | ((with_reducible refine gate_store (t := 24) (p := 2) rfl ?_); refine store_event (t := 24) (p := 2) (v := ?vof1_) (w1 := (((((((wr.setCell ⟨gr, 0, none⟩ (.int .u32 v)).setCell ⟨gr, 1, none⟩ (.int .u32 m1)).setCell ⟨gr, 2, none⟩ (.int .u32 m2)).setCell ⟨gr, 3, none⟩ (.int .u32 m3)).setCell ⟨gr, 4, none⟩ (.int .u32 m4)).setCell ⟨gr, 5, none⟩ (.int .u32 m5)).setCell ⟨gr, 6, none⟩ (.int .u32 m6))) ?hg ?ho ?hn ?hr ?_; (case ho => rfl); (case hg => rfl); (case hn => rfl); (case hr => first | (go_simp; done) | (go_simp; rfl)); intro W9 hw; have BR_ := (by rw [hw]; exact bp7_ BR : W9.heap[gr]? = some (.cells #[.int .u32 v, .int .u32 m1, .int .u32 m2, .int .u32 m3, .int .u32 m4, .int .u32 m5, .int .u32 m6] 24 (0, 0))); have HB_ := (by rw [hw]; exact (below_set (below_set (below_set (below_set (below_set (below_set (below_set HB wgr) wgr) wgr) wgr) wgr) wgr) wgr) : Below w.heap.size w W9); clear hw HB BR; have HB := HB_; have BR := BR_; clear HB_ BR_; (try clear kr0_); (try clear zkr0_); (try clear kr1_); (try clear zkr1_); (try clear kr2_); (try clear zkr2_); (try clear kr3_); (try clear zkr3_); (try clear kr4_); (try clear zkr4_); (try clear kr5_); (try clear zkr5_); (try clear kr6_); (try clear zkr6_)))
     refine bodyPost_ret (results_ct rfl _ _ gr 24 #[.int .u32 v, .int .u32 m1, .int .u32 m2, .int .u32 m3, .int .u32 m4, .int .u32 m5, .int .u32 m6] (0, 0) _ rfl BR Tryd.underlying24 rfl (by kernel_rfl)) rfl ?_
     exact ⟨rfl, HB⟩
    | cons f ft =>
     replace hres : ((0 : Int), (0 : Int), (0 : Int), (0 : Int), (0 : Int), (0 : Int), (0 : Int), (2 : Int)) = (r1, r2, r3, r4, r5, r6, r7, r8) := hres
     simp only [Prod.mk.injEq] at hres
     obtain ⟨rfl, rfl, rfl, rfl, rfl, rfl, rfl, rfl⟩ := hres
     obtain ⟨N, hN⟩ : ∃ N, N = (f :: ft).length := ⟨_, rfl⟩
     rw [← hN]
     have hNp : 1 ≤ N := by rw [hN, List.length_cons]; omega
     have n4 : decide ((0 : Int) < (N : Int)) = true := decide_eq_true (by omega)
     have n5 : decide (0 < N) = true := decide_eq_true (by omega)
     clear hN hNp
     go_wp2_with (first | ((with_reducible refine gate_store (t := 24) (p := 2) rfl ?_); refine store_event (t := 24) (p := 2) (v := ?vof2_) (w1 := (((((((wr.setCell ⟨gr, 0, none⟩ (.int .u32 0)).setCell ⟨gr, 1, none⟩ (.int .u32 0)).setCell ⟨gr, 2, none⟩ (.int .u32 0)).setCell ⟨gr, 3, none⟩ (.int .u32 0)).setCell ⟨gr, 4, none⟩ (.int .u32 0)).setCell ⟨gr, 5, none⟩ (.int .u32 0)).setCell ⟨gr, 6, none⟩ (.int .u32 0))) ?hg ?ho ?hn ?hr ?_; (case ho => rfl); (case hg => rfl); (case hn => rfl); (case hr => first | (go_simp; done) | (go_simp; rfl)); intro W10 hw; have BR_ := (by rw [hw]; exact bp7_ BR : W10.heap[gr]? = some (.cells vA0 24 (0, 0))); have HB_ := (by rw [hw]; exact (below_set (below_set (below_set (below_set (below_set (below_set (below_set HB wgr) wgr) wgr) wgr) wgr) wgr) wgr) : Below w.heap.size w W10); clear hw HB BR; have HB := HB_; have BR := BR_; clear HB_ BR_; (try clear kr0_); (try clear zkr0_); (try clear kr1_); (try clear zkr1_); (try clear kr2_); (try clear zkr2_); (try clear kr3_); (try clear zkr3_); (try clear kr4_); (try clear zkr4_); (try clear kr5_); (try clear zkr5_); (try clear kr6_); (try clear zkr6_)))
     refine bodyPost_ret (results_ct rfl _ _ gr 24 vA0 (0, 0) _ rfl BR Tryd.underlying24 rfl (by kernel_rfl)) rfl ?_
     exact ⟨rfl, HB⟩
   have hcase : i = 0 ∨ i = 1 ∨ i = 2 ∨ i = 3 ∨ i = 4 ∨ i = 5 ∨ i = 6 ∨ i = 7 := by omega
   rcases hcase with rfl | rfl | rfl | rfl | rfl | rfl | rfl | rfl
   ·
    have hI := msg.idx0 gm
    have hres2 : msg.res v 7 fs m1 m2 m3 m4 m5 m6 = (r1, r2, r3, r4, r5, r6, r7, r8) := by have q := (msg.res_succ v 7 fs m1 m2 m3 m4 m5 m6).symm.trans hres; rw [if_neg (fun q_ => absurd q_.1 (by decide))] at q; exact q
    clear hi c_ hres
    go_wp2
    go_roundg k2
    case measure => exact Nat.lt_succ_self _
    case rel => exact ⟨1, fs, A, c, m1, m2, m3, m4, m5, m6, rfl, (by first | rfl | (simp; done)), ⟨by omega⟩, ⟨by omega⟩, ⟨hres2⟩, ⟨hV⟩, ⟨BM⟩, ⟨BR⟩, ⟨HB⟩⟩
   ·
    have hI := msg.idx1 gm
    have hres2 : msg.res v 6 fs m1 m2 m3 m4 m5 m6 = (r1, r2, r3, r4, r5, r6, r7, r8) := by have q := (msg.res_succ v 6 fs m1 m2 m3 m4 m5 m6).symm.trans hres; rw [if_neg (fun q_ => absurd q_.1 (by decide))] at q; exact q
    clear hi c_ hres
    go_wp2
    go_roundg k2
    case measure => exact Nat.lt_succ_self _
    case rel => exact ⟨2, fs, A, c, m1, m2, m3, m4, m5, m6, rfl, (by first | rfl | (simp; done)), ⟨by omega⟩, ⟨by omega⟩, ⟨hres2⟩, ⟨hV⟩, ⟨BM⟩, ⟨BR⟩, ⟨HB⟩⟩
   ·
    have hI := msg.idx2 gm
    clear hi c_
    obtain ⟨b, hb⟩ : ∃ b, b = msg.hasB v 2 := ⟨_, rfl⟩
    have AP := Aside0.mk (show msg_part.f v 2 = some b by unfold msg_part.f; rw [if_pos ⟨hk, by decide⟩, hb])
    replace hres := (msg.res_succ v 5 fs m1 m2 m3 m4 m5 m6).symm.trans hres
    cases b with
    | false =>
     rw [if_neg (fun q_ => by have h2 := q_.2; rw [show msg.hasB v ((7 - 5 : Nat) : Int) = false from hb.symm] at h2; cases h2)] at hres
     clear hb
     go_wp2_with (first | (go_at_call 20; (with_reducible refine (msg_part.calls v 2 false _ (hG.below HB) AP.out).mono ?_); rintro e w9 ⟨rfl, hd_⟩; have hb_ := hd_.below; clear hd_; replace BM := blk_below BM hb_; replace BR := blk_below BR hb_; replace hV := Kd.V_below hV hb_; replace HB := HB.trans (hb_.mono HB.size); clear hb_; (try clear km0_); (try clear zkm0_); (try clear km1_); (try clear zkm1_); (try clear km2_); (try clear zkm2_); (try clear km3_); (try clear zkm3_); (try clear km4_); (try clear zkm4_); (try clear km5_); (try clear zkm5_); (try clear km6_); (try clear zkm6_); (try clear kr0_); (try clear zkr0_); (try clear kr1_); (try clear zkr1_); (try clear kr2_); (try clear zkr2_); (try clear kr3_); (try clear zkr3_); (try clear kr4_); (try clear zkr4_); (try clear kr5_); (try clear zkr5_); (try clear kr6_); (try clear zkr6_); have km0_ : w9.cell? ⟨gm, 0, none⟩ = some (.int .u32 v) := (blk_cell BM 0).trans rfl; have zkm0_ := blk_frozen BM 0; have km1_ : w9.cell? ⟨gm, 1, none⟩ = some (.int .u32 m1) := (blk_cell BM 1).trans rfl; have zkm1_ := blk_frozen BM 1; have km2_ : w9.cell? ⟨gm, 2, none⟩ = some (.int .u32 m2) := (blk_cell BM 2).trans rfl; have zkm2_ := blk_frozen BM 2; have km3_ : w9.cell? ⟨gm, 3, none⟩ = some (.int .u32 m3) := (blk_cell BM 3).trans rfl; have zkm3_ := blk_frozen BM 3; have km4_ : w9.cell? ⟨gm, 4, none⟩ = some (.int .u32 m4) := (blk_cell BM 4).trans rfl; have zkm4_ := blk_frozen BM 4; have km5_ : w9.cell? ⟨gm, 5, none⟩ = some (.int .u32 m5) := (blk_cell BM 5).trans rfl; have zkm5_ := blk_frozen BM 5; have km6_ : w9.cell? ⟨gm, 6, none⟩ = some (.int .u32 m6) := (blk_cell BM 6).trans rfl; have zkm6_ := blk_frozen BM 6; have kr0_ : w9.cell? ⟨gr, 0, none⟩ = some (.int .u32 0) := (blk_cell BR 0).trans rfl; have zkr0_ := blk_frozen BR 0; have kr1_ : w9.cell? ⟨gr, 1, none⟩ = some (.int .u32 0) := (blk_cell BR 1).trans rfl; have zkr1_ := blk_frozen BR 1; have kr2_ : w9.cell? ⟨gr, 2, none⟩ = some (.int .u32 0) := (blk_cell BR 2).trans rfl; have zkr2_ := blk_frozen BR 2; have kr3_ : w9.cell? ⟨gr, 3, none⟩ = some (.int .u32 0) := (blk_cell BR 3).trans rfl; have zkr3_ := blk_frozen BR 3; have kr4_ : w9.cell? ⟨gr, 4, none⟩ = some (.int .u32 0) := (blk_cell BR 4).trans rfl; have zkr4_ := blk_frozen BR 4; have kr5_ : w9.cell? ⟨gr, 5, none⟩ = some (.int .u32 0) := (blk_cell BR 5).trans rfl; have zkr5_ := blk_frozen BR 5; have kr6_ : w9.cell? ⟨gr, 6, none⟩ = some (.int .u32 0) := (blk_cell BR 6).trans rfl; have zkr6_ := blk_frozen BR 6))
     go_roundg k2
     case measure => exact Nat.lt_succ_self _
     case rel => exact ⟨3, fs, A, c, m1, m2, m3, m4, m5, m6, rfl, (by first | rfl | (simp; done)), ⟨by omega⟩, ⟨by omega⟩, ⟨hres⟩, ⟨hV⟩, ⟨BM⟩, ⟨BR⟩, ⟨HB⟩⟩
    | true =>
     rw [if_pos ⟨by decide, hb.symm⟩] at hres
     clear hb
     cases fs with
     | nil =>
      simp only [Prod.mk.injEq] at hres
      obtain ⟨rfl, rfl, rfl, rfl, rfl, rfl, rfl, rfl⟩ := hres
      simp only [List.length_nil]
      simp only [List.length_nil] at hV
      go_wp2_with (first | (go_at_call 20; (with_reducible refine (msg_part.calls v 2 true _ (hG.below HB) AP.out).mono ?_); rintro e w9 ⟨rfl, hd_⟩; have hb_ := hd_.below; clear hd_; replace BM := blk_below BM hb_; replace BR := blk_below BR hb_; replace hV := Kd.V_below hV hb_; replace HB := HB.trans (hb_.mono HB.size); clear hb_; (try clear km0_); (try clear zkm0_); (try clear km1_); (try clear zkm1_); (try clear km2_); (try clear zkm2_); (try clear km3_); (try clear zkm3_); (try clear km4_); (try clear zkm4_); (try clear km5_); (try clear zkm5_); (try clear km6_); (try clear zkm6_); (try clear kr0_); (try clear zkr0_); (try clear kr1_); (try clear zkr1_); (try clear kr2_); (try clear zkr2_); (try clear kr3_); (try clear zkr3_); (try clear kr4_); (try clear zkr4_); (try clear kr5_); (try clear zkr5_); (try clear kr6_); (try clear zkr6_); have km0_ : w9.cell? ⟨gm, 0, none⟩ = some (.int .u32 v) := (blk_cell BM 0).trans rfl; have zkm0_ := blk_frozen BM 0; have km1_ : w9.cell? ⟨gm, 1, none⟩ = some (.int .u32 m1) := (blk_cell BM 1).trans rfl; have zkm1_ := blk_frozen BM 1; have km2_ : w9.cell? ⟨gm, 2, none⟩ = some (.int .u32 m2) := (blk_cell BM 2).trans rfl; have zkm2_ := blk_frozen BM 2; have km3_ : w9.cell? ⟨gm, 3, none⟩ = some (.int .u32 m3) := (blk_cell BM 3).trans rfl; have zkm3_ := blk_frozen BM 3; have km4_ : w9.cell? ⟨gm, 4, none⟩ = some (.int .u32 m4) := (blk_cell BM 4).trans rfl; have zkm4_ := blk_frozen BM 4; have km5_ : w9.cell? ⟨gm, 5, none⟩ = some (.int .u32 m5) := (blk_cell BM 5).trans rfl; have zkm5_ := blk_frozen BM 5; have km6_ : w9.cell? ⟨gm, 6, none⟩ = some (.int .u32 m6) := (blk_cell BM 6).trans rfl; have zkm6_ := blk_frozen BM 6; have kr0_ : w9.cell? ⟨gr, 0, none⟩ = some (.int .u32 0) := (blk_cell BR 0).trans rfl; have zkr0_ := blk_frozen BR 0; have kr1_ : w9.cell? ⟨gr, 1, none⟩ = some (.int .u32 0) := (blk_cell BR 1).trans rfl; have zkr1_ := blk_frozen BR 1; have kr2_ : w9.cell? ⟨gr, 2, none⟩ = some (.int .u32 0) := (blk_cell BR 2).trans rfl; have zkr2_ := blk_frozen BR 2; have kr3_ : w9.cell? ⟨gr, 3, none⟩ = some (.int .u32 0) := (blk_cell BR 3).trans rfl; have zkr3_ := blk_frozen BR 3; have kr4_ : w9.cell? ⟨gr, 4, none⟩ = some (.int .u32 0) := (blk_cell BR 4).trans rfl; have zkr4_ := blk_frozen BR 4; have kr5_ : w9.cell? ⟨gr, 5, none⟩ = some (.int .u32 0) := (blk_cell BR 5).trans rfl; have zkr5_ := blk_frozen BR 5; have kr6_ : w9.cell? ⟨gr, 6, none⟩ = some (.int .u32 0) := (blk_cell BR 6).trans rfl; have zkr6_ := blk_frozen BR 6) | ((with_reducible refine gate_store (t := 24) (p := 2) rfl ?_); refine store_event (t := 24) (p := 2) (v := ?vog2_) (w1 := (((((((w9.setCell ⟨gr, 0, none⟩ (.int .u32 0)).setCell ⟨gr, 1, none⟩ (.int .u32 0)).setCell ⟨gr, 2, none⟩ (.int .u32 0)).setCell ⟨gr, 3, none⟩ (.int .u32 0)).setCell ⟨gr, 4, none⟩ (.int .u32 0)).setCell ⟨gr, 5, none⟩ (.int .u32 0)).setCell ⟨gr, 6, none⟩ (.int .u32 0))) ?hg ?ho ?hn ?hr ?_; (case ho => rfl); (case hg => rfl); (case hn => rfl); (case hr => first | (go_simp; done) | (go_simp; rfl)); intro W11 hw; have BR_ := (by rw [hw]; exact bp7_ BR : W11.heap[gr]? = some (.cells vA0 24 (0, 0))); have HB_ := (by rw [hw]; exact (below_set (below_set (below_set (below_set (below_set (below_set (below_set HB wgr) wgr) wgr) wgr) wgr) wgr) wgr) : Below w.heap.size w W11); clear hw HB BR; have HB := HB_; have BR := BR_; clear HB_ BR_; (try clear kr0_); (try clear zkr0_); (try clear kr1_); (try clear zkr1_); (try clear kr2_); (try clear zkr2_); (try clear kr3_); (try clear zkr3_); (try clear kr4_); (try clear zkr4_); (try clear kr5_); (try clear zkr5_); (try clear kr6_); (try clear zkr6_)))
      refine bodyPost_ret (results_ct rfl _ _ gr 24 vA0 (0, 0) _ rfl BR Tryd.underlying24 rfl (by kernel_rfl)) rfl ?_
      exact ⟨rfl, HB⟩
     | cons f ft =>
     dsimp only at hres
     obtain ⟨ad, A1, c1, eA, hx0, hx0', hx1, hx1', hi1⟩ := msg.first hV
     subst eA
     obtain ⟨Ar, hVr, HCut⟩ := msg.rest hV
     obtain ⟨cr, hcr⟩ : ∃ cr, cr = c - 1 := ⟨_, rfl⟩
     rw [← hcr] at hVr HCut
     clear hcr
     obtain ⟨N, hN⟩ : ∃ N, N = (f :: ft).length := ⟨_, rfl⟩
     rw [← hN] at hV HCut ⊢
     have hNp : 1 ≤ N := by rw [hN, List.length_cons]; omega
     have n0 : ((N : Int) == 0) = false := beq_eq_false_iff_ne.mpr (by omega)
     have n1 : (N == 0) = false := beq_eq_false_iff_ne.mpr (by omega)
     have n2 : decide (N = 0) = false := decide_eq_false (by omega)
     have n3 : (0 < N) = True := eq_true (by omega)
     have n4 : ((0 : Int) < (N : Int)) = True := eq_true (by omega)
     clear hN hNp
     by_cases c1_ : f.f0 = 2
     rotate_left
     ·
      rw [if_neg (fun q_ => c1_ q_.1)] at hres
      simp only [Prod.mk.injEq] at hres
      obtain ⟨rfl, rfl, rfl, rfl, rfl, rfl, rfl, rfl⟩ := hres
      have e1 : (f.f0 != 2) = true := bne_iff_ne.mpr c1_
      have e2 : (f.f0 == 2) = false := beq_eq_false_iff_ne.mpr c1_
      clear hVr HCut hi1
      go_wp2_with (first | (go_at_call 20; (with_reducible refine (msg_part.calls v 2 true _ (hG.below HB) AP.out).mono ?_); rintro e w9 ⟨rfl, hd_⟩; have hb_ := hd_.below; clear hd_; replace BM := blk_below BM hb_; replace BR := blk_below BR hb_; replace hV := Kd.V_below hV hb_; replace HB := HB.trans (hb_.mono HB.size); replace hx0 := pw_cell_below hb_ hx0; replace hx0' := pw_cell_below hb_ hx0'; replace hx1 := pw_cell_below hb_ hx1; replace hx1' := pw_cell_below hb_ hx1'; clear hb_; (try clear km0_); (try clear zkm0_); (try clear km1_); (try clear zkm1_); (try clear km2_); (try clear zkm2_); (try clear km3_); (try clear zkm3_); (try clear km4_); (try clear zkm4_); (try clear km5_); (try clear zkm5_); (try clear km6_); (try clear zkm6_); (try clear kr0_); (try clear zkr0_); (try clear kr1_); (try clear zkr1_); (try clear kr2_); (try clear zkr2_); (try clear kr3_); (try clear zkr3_); (try clear kr4_); (try clear zkr4_); (try clear kr5_); (try clear zkr5_); (try clear kr6_); (try clear zkr6_); have km0_ : w9.cell? ⟨gm, 0, none⟩ = some (.int .u32 v) := (blk_cell BM 0).trans rfl; have zkm0_ := blk_frozen BM 0; have km1_ : w9.cell? ⟨gm, 1, none⟩ = some (.int .u32 m1) := (blk_cell BM 1).trans rfl; have zkm1_ := blk_frozen BM 1; have km2_ : w9.cell? ⟨gm, 2, none⟩ = some (.int .u32 m2) := (blk_cell BM 2).trans rfl; have zkm2_ := blk_frozen BM 2; have km3_ : w9.cell? ⟨gm, 3, none⟩ = some (.int .u32 m3) := (blk_cell BM 3).trans rfl; have zkm3_ := blk_frozen BM 3; have km4_ : w9.cell? ⟨gm, 4, none⟩ = some (.int .u32 m4) := (blk_cell BM 4).trans rfl; have zkm4_ := blk_frozen BM 4; have km5_ : w9.cell? ⟨gm, 5, none⟩ = some (.int .u32 m5) := (blk_cell BM 5).trans rfl; have zkm5_ := blk_frozen BM 5; have km6_ : w9.cell? ⟨gm, 6, none⟩ = some (.int .u32 m6) := (blk_cell BM 6).trans rfl; have zkm6_ := blk_frozen BM 6; have kr0_ : w9.cell? ⟨gr, 0, none⟩ = some (.int .u32 0) := (blk_cell BR 0).trans rfl; have zkr0_ := blk_frozen BR 0; have kr1_ : w9.cell? ⟨gr, 1, none⟩ = some (.int .u32 0) := (blk_cell BR 1).trans rfl; have zkr1_ := blk_frozen BR 1; have kr2_ : w9.cell? ⟨gr, 2, none⟩ = some (.int .u32 0) := (blk_cell BR 2).trans rfl; have zkr2_ := blk_frozen BR 2; have kr3_ : w9.cell? ⟨gr, 3, none⟩ = some (.int .u32 0) := (blk_cell BR 3).trans rfl; have zkr3_ := blk_frozen BR 3; have kr4_ : w9.cell? ⟨gr, 4, none⟩ = some (.int .u32 0) := (blk_cell BR 4).trans rfl; have zkr4_ := blk_frozen BR 4; have kr5_ : w9.cell? ⟨gr, 5, none⟩ = some (.int .u32 0) := (blk_cell BR 5).trans rfl; have zkr5_ := blk_frozen BR 5; have kr6_ : w9.cell? ⟨gr, 6, none⟩ = some (.int .u32 0) := (blk_cell BR 6).trans rfl; have zkr6_ := blk_frozen BR 6) | ((with_reducible refine gate_store (t := 24) (p := 2) rfl ?_); refine store_event (t := 24) (p := 2) (v := ?voh2_) (w1 := (((((((w9.setCell ⟨gr, 0, none⟩ (.int .u32 0)).setCell ⟨gr, 1, none⟩ (.int .u32 0)).setCell ⟨gr, 2, none⟩ (.int .u32 0)).setCell ⟨gr, 3, none⟩ (.int .u32 0)).setCell ⟨gr, 4, none⟩ (.int .u32 0)).setCell ⟨gr, 5, none⟩ (.int .u32 0)).setCell ⟨gr, 6, none⟩ (.int .u32 0))) ?hg ?ho ?hn ?hr ?_; (case ho => rfl); (case hg => rfl); (case hn => rfl); (case hr => first | (go_simp; done) | (go_simp; rfl)); intro W12 hw; have BR_ := (by rw [hw]; exact bp7_ BR : W12.heap[gr]? = some (.cells vA0 24 (0, 0))); have HB_ := (by rw [hw]; exact (below_set (below_set (below_set (below_set (below_set (below_set (below_set HB wgr) wgr) wgr) wgr) wgr) wgr) wgr) : Below w.heap.size w W12); clear hw HB BR; have HB := HB_; have BR := BR_; clear HB_ BR_; (try clear kr0_); (try clear zkr0_); (try clear kr1_); (try clear zkr1_); (try clear kr2_); (try clear zkr2_); (try clear kr3_); (try clear zkr3_); (try clear kr4_); (try clear zkr4_); (try clear kr5_); (try clear zkr5_); (try clear kr6_); (try clear zkr6_)))
      refine bodyPost_ret (results_ct rfl _ _ gr 24 vA0 (0, 0) _ rfl BR Tryd.underlying24 rfl (by kernel_rfl)) rfl ?_
      exact ⟨rfl, HB⟩
     rw [c1_] at hx0 hx0'
     by_cases c2_ : f.f1.length = 1
     rotate_left
     ·
      rw [if_neg (fun q_ => c2_ q_.2)] at hres
      simp only [Prod.mk.injEq] at hres
      obtain ⟨rfl, rfl, rfl, rfl, rfl, rfl, rfl, rfl⟩ := hres
      have e1 : ((f.f1.length : Int) != 1) = true := bne_iff_ne.mpr (by omega)
      have e2 : (f.f1.length == 1) = false := beq_eq_false_iff_ne.mpr c2_
      have e3 : ((f.f1.length : Int) == 1) = false := beq_eq_false_iff_ne.mpr (by omega)
      have e4 : (f.f1.length != 1) = true := bne_iff_ne.mpr c2_
      clear hVr HCut hi1
      go_wp2_with (first | (go_at_call 20; (with_reducible refine (msg_part.calls v 2 true _ (hG.below HB) AP.out).mono ?_); rintro e w9 ⟨rfl, hd_⟩; have hb_ := hd_.below; clear hd_; replace BM := blk_below BM hb_; replace BR := blk_below BR hb_; replace hV := Kd.V_below hV hb_; replace HB := HB.trans (hb_.mono HB.size); replace hx0 := pw_cell_below hb_ hx0; replace hx0' := pw_cell_below hb_ hx0'; replace hx1 := pw_cell_below hb_ hx1; replace hx1' := pw_cell_below hb_ hx1'; clear hb_; (try clear km0_); (try clear zkm0_); (try clear km1_); (try clear zkm1_); (try clear km2_); (try clear zkm2_); (try clear km3_); (try clear zkm3_); (try clear km4_); (try clear zkm4_); (try clear km5_); (try clear zkm5_); (try clear km6_); (try clear zkm6_); (try clear kr0_); (try clear zkr0_); (try clear kr1_); (try clear zkr1_); (try clear kr2_); (try clear zkr2_); (try clear kr3_); (try clear zkr3_); (try clear kr4_); (try clear zkr4_); (try clear kr5_); (try clear zkr5_); (try clear kr6_); (try clear zkr6_); have km0_ : w9.cell? ⟨gm, 0, none⟩ = some (.int .u32 v) := (blk_cell BM 0).trans rfl; have zkm0_ := blk_frozen BM 0; have km1_ : w9.cell? ⟨gm, 1, none⟩ = some (.int .u32 m1) := (blk_cell BM 1).trans rfl; have zkm1_ := blk_frozen BM 1; have km2_ : w9.cell? ⟨gm, 2, none⟩ = some (.int .u32 m2) := (blk_cell BM 2).trans rfl; have zkm2_ := blk_frozen BM 2; have km3_ : w9.cell? ⟨gm, 3, none⟩ = some (.int .u32 m3) := (blk_cell BM 3).trans rfl; have zkm3_ := blk_frozen BM 3; have km4_ : w9.cell? ⟨gm, 4, none⟩ = some (.int .u32 m4) := (blk_cell BM 4).trans rfl; have zkm4_ := blk_frozen BM 4; have km5_ : w9.cell? ⟨gm, 5, none⟩ = some (.int .u32 m5) := (blk_cell BM 5).trans rfl; have zkm5_ := blk_frozen BM 5; have km6_ : w9.cell? ⟨gm, 6, none⟩ = some (.int .u32 m6) := (blk_cell BM 6).trans rfl; have zkm6_ := blk_frozen BM 6; have kr0_ : w9.cell? ⟨gr, 0, none⟩ = some (.int .u32 0) := (blk_cell BR 0).trans rfl; have zkr0_ := blk_frozen BR 0; have kr1_ : w9.cell? ⟨gr, 1, none⟩ = some (.int .u32 0) := (blk_cell BR 1).trans rfl; have zkr1_ := blk_frozen BR 1; have kr2_ : w9.cell? ⟨gr, 2, none⟩ = some (.int .u32 0) := (blk_cell BR 2).trans rfl; have zkr2_ := blk_frozen BR 2; have kr3_ : w9.cell? ⟨gr, 3, none⟩ = some (.int .u32 0) := (blk_cell BR 3).trans rfl; have zkr3_ := blk_frozen BR 3; have kr4_ : w9.cell? ⟨gr, 4, none⟩ = some (.int .u32 0) := (blk_cell BR 4).trans rfl; have zkr4_ := blk_frozen BR 4; have kr5_ : w9.cell? ⟨gr, 5, none⟩ = some (.int .u32 0) := (blk_cell BR 5).trans rfl; have zkr5_ := blk_frozen BR 5; have kr6_ : w9.cell? ⟨gr, 6, none⟩ = some (.int .u32 0) := (blk_cell BR 6).trans rfl; have zkr6_ := blk_frozen BR 6) | ((with_reducible refine gate_store (t := 24) (p := 2) rfl ?_); refine store_event (t := 24) (p := 2) (v := ?voi2_) (w1 := (((((((w9.setCell ⟨gr, 0, none⟩ (.int .u32 0)).setCell ⟨gr, 1, none⟩ (.int .u32 0)).setCell ⟨gr, 2, none⟩ (.int .u32 0)).setCell ⟨gr, 3, none⟩ (.int .u32 0)).setCell ⟨gr, 4, none⟩ (.int .u32 0)).setCell ⟨gr, 5, none⟩ (.int .u32 0)).setCell ⟨gr, 6, none⟩ (.int .u32 0))) ?hg ?ho ?hn ?hr ?_; (case ho => rfl); (case hg => rfl); (case hn => rfl); (case hr => first | (go_simp; done) | (go_simp; rfl)); intro W13 hw; have BR_ := (by rw [hw]; exact bp7_ BR : W13.heap[gr]? = some (.cells vA0 24 (0, 0))); have HB_ := (by rw [hw]; exact (below_set (below_set (below_set (below_set (below_set (below_set (below_set HB wgr) wgr) wgr) wgr) wgr) wgr) wgr) : Below w.heap.size w W13); clear hw HB BR; have HB := HB_; have BR := BR_; clear HB_ BR_; (try clear kr0_); (try clear zkr0_); (try clear kr1_); (try clear zkr1_); (try clear kr2_); (try clear zkr2_); (try clear kr3_); (try clear zkr3_); (try clear kr4_); (try clear zkr4_); (try clear kr5_); (try clear zkr5_); (try clear kr6_); (try clear zkr6_)))
      refine bodyPost_ret (results_ct rfl _ _ gr 24 vA0 (0, 0) _ rfl BR Tryd.underlying24 rfl (by kernel_rfl)) rfl ?_
      exact ⟨rfl, HB⟩
     rw [if_pos ⟨c1_, c2_⟩] at hres
     rw [c2_] at hx1 hx1'
     obtain ⟨ad1, e1A, hy⟩ := Kd.at_int hi1 0 (by decide) (by rw [c2_]; decide)
     subst e1A
     obtain ⟨u, hu⟩ : ∃ u, u = rd f.f1 0 := ⟨_, rfl⟩
     rw [← hu] at hy hres
     have hy : wr.cell? (ad1.add 0) = some (.int .u32 u) := hy
     have hy' : wr.cell? ad1 = some (.int .u32 u) := msg.add0 ad1 ▸ hy
     clear hi1 c1_ c2_ hu hV
     have hres2 : msg.res v 5 ft u m2 m3 m4 m5 m6 = (r1, r2, r3, r4, r5, r6, r7, r8) := hres
     clear hres
     go_wp2_with (first | (go_at_call 20; (with_reducible refine (msg_part.calls v 2 true _ (hG.below HB) AP.out).mono ?_); rintro e w9 ⟨rfl, hd_⟩; have hb_ := hd_.below; clear hd_; replace BM := blk_below BM hb_; replace BR := blk_below BR hb_; replace hVr := Kd.V_below hVr hb_; replace HB := HB.trans (hb_.mono HB.size); replace hx0 := pw_cell_below hb_ hx0; replace hx0' := pw_cell_below hb_ hx0'; replace hx1 := pw_cell_below hb_ hx1; replace hx1' := pw_cell_below hb_ hx1'; replace hy := pw_cell_below hb_ hy; replace hy' := pw_cell_below hb_ hy'; clear hb_; (try clear km0_); (try clear zkm0_); (try clear km1_); (try clear zkm1_); (try clear km2_); (try clear zkm2_); (try clear km3_); (try clear zkm3_); (try clear km4_); (try clear zkm4_); (try clear km5_); (try clear zkm5_); (try clear km6_); (try clear zkm6_); (try clear kr0_); (try clear zkr0_); (try clear kr1_); (try clear zkr1_); (try clear kr2_); (try clear zkr2_); (try clear kr3_); (try clear zkr3_); (try clear kr4_); (try clear zkr4_); (try clear kr5_); (try clear zkr5_); (try clear kr6_); (try clear zkr6_); have km0_ : w9.cell? ⟨gm, 0, none⟩ = some (.int .u32 v) := (blk_cell BM 0).trans rfl; have zkm0_ := blk_frozen BM 0; have km1_ : w9.cell? ⟨gm, 1, none⟩ = some (.int .u32 m1) := (blk_cell BM 1).trans rfl; have zkm1_ := blk_frozen BM 1; have km2_ : w9.cell? ⟨gm, 2, none⟩ = some (.int .u32 m2) := (blk_cell BM 2).trans rfl; have zkm2_ := blk_frozen BM 2; have km3_ : w9.cell? ⟨gm, 3, none⟩ = some (.int .u32 m3) := (blk_cell BM 3).trans rfl; have zkm3_ := blk_frozen BM 3; have km4_ : w9.cell? ⟨gm, 4, none⟩ = some (.int .u32 m4) := (blk_cell BM 4).trans rfl; have zkm4_ := blk_frozen BM 4; have km5_ : w9.cell? ⟨gm, 5, none⟩ = some (.int .u32 m5) := (blk_cell BM 5).trans rfl; have zkm5_ := blk_frozen BM 5; have km6_ : w9.cell? ⟨gm, 6, none⟩ = some (.int .u32 m6) := (blk_cell BM 6).trans rfl; have zkm6_ := blk_frozen BM 6; have kr0_ : w9.cell? ⟨gr, 0, none⟩ = some (.int .u32 0) := (blk_cell BR 0).trans rfl; have zkr0_ := blk_frozen BR 0; have kr1_ : w9.cell? ⟨gr, 1, none⟩ = some (.int .u32 0) := (blk_cell BR 1).trans rfl; have zkr1_ := blk_frozen BR 1; have kr2_ : w9.cell? ⟨gr, 2, none⟩ = some (.int .u32 0) := (blk_cell BR 2).trans rfl; have zkr2_ := blk_frozen BR 2; have kr3_ : w9.cell? ⟨gr, 3, none⟩ = some (.int .u32 0) := (blk_cell BR 3).trans rfl; have zkr3_ := blk_frozen BR 3; have kr4_ : w9.cell? ⟨gr, 4, none⟩ = some (.int .u32 0) := (blk_cell BR 4).trans rfl; have zkr4_ := blk_frozen BR 4; have kr5_ : w9.cell? ⟨gr, 5, none⟩ = some (.int .u32 0) := (blk_cell BR 5).trans rfl; have zkr5_ := blk_frozen BR 5; have kr6_ : w9.cell? ⟨gr, 6, none⟩ = some (.int .u32 0) := (blk_cell BR 6).trans rfl; have zkr6_ := blk_frozen BR 6) | ((with_reducible refine gate_store (t := 22) (p := 108) rfl ?_); refine store_event (t := 22) (p := 108) (v := ?vw2_) (w1 := w9.setCell ⟨gm, 1, none⟩ (.int .u32 u)) ?hg ?ho ?hn ?hr ?_; (case ho => rfl); (case hg => rfl); (case hn => rfl); (case hr => first | (go_simp; done) | (go_simp; rfl)); intro W14 hw; have BM_ := (by rw [hw]; exact blk_put (cs := #[.int .u32 v, .int .u32 m1, .int .u32 m2, .int .u32 m3, .int .u32 m4, .int .u32 m5, .int .u32 m6]) (cs' := #[.int .u32 v, .int .u32 u, .int .u32 m2, .int .u32 m3, .int .u32 m4, .int .u32 m5, .int .u32 m6]) BM 1 _ rfl : W14.heap[gm]? = some (.cells #[.int .u32 v, .int .u32 u, .int .u32 m2, .int .u32 m3, .int .u32 m4, .int .u32 m5, .int .u32 m6] 24 (0, 0))); have BR_ := (by rw [hw]; exact blk_far (p := ⟨gm, 1, none⟩) BR (Nat.ne_of_lt lrm) _ : W14.heap[gr]? = some (.cells vA0 24 (0, 0))); have hV_ := (by rw [hw]; exact Kd.V_far (p := ⟨gm, 1, none⟩) hVr (fun k hk => hk.1) _ : Kd.V k45 45 W14 0 (fun k => k ≠ gm ∧ k ≠ gr) (.slice Ar ft.length cr) ft); have HB_ := (by rw [hw]; exact below_set (g := gm) (j := 1) (v := .int .u32 u) HB (Nat.le_trans wgr (Nat.le_of_lt lrm)) : Below w.heap.size w W14); clear hw BM BR hVr HB; have BM := BM_; have BR := BR_; have hV := hV_; have HB := HB_; clear BM_ BR_ hV_ HB_; (try clear km0_); (try clear zkm0_); (try clear km1_); (try clear zkm1_); (try clear km2_); (try clear zkm2_); (try clear km3_); (try clear zkm3_); (try clear km4_); (try clear zkm4_); (try clear km5_); (try clear zkm5_); (try clear km6_); (try clear zkm6_); (try clear kr0_); (try clear zkr0_); (try clear kr1_); (try clear zkr1_); (try clear kr2_); (try clear zkr2_); (try clear kr3_); (try clear zkr3_); (try clear kr4_); (try clear zkr4_); (try clear kr5_); (try clear zkr5_); (try clear kr6_); (try clear zkr6_)))
     go_roundg k2
     case measure => exact Nat.lt_succ_self _
     case rel => exact ⟨3, ft, Ar, cr, u, m2, m3, m4, m5, m6, rfl, (by first | rfl | (simp; done)), ⟨by omega⟩, ⟨by omega⟩, ⟨hres2⟩, ⟨hV⟩, ⟨BM⟩, ⟨BR⟩, ⟨HB⟩⟩
   ·
    have hI := msg.idx3 gm
    clear hi c_
    obtain ⟨b, hb⟩ : ∃ b, b = msg.hasB v 3 := ⟨_, rfl⟩
    have AP := Aside0.mk (show msg_part.f v 3 = some b by unfold msg_part.f; rw [if_pos ⟨hk, by decide⟩, hb])
    replace hres := (msg.res_succ v 4 fs m1 m2 m3 m4 m5 m6).symm.trans hres
    cases b with
    | false =>
     rw [if_neg (fun q_ => by have h2 := q_.2; rw [show msg.hasB v ((7 - 4 : Nat) : Int) = false from hb.symm] at h2; cases h2)] at hres
     clear hb
     go_wp2_with (first | (go_at_call 20; (with_reducible refine (msg_part.calls v 3 false _ (hG.below HB) AP.out).mono ?_); rintro e w9 ⟨rfl, hd_⟩; have hb_ := hd_.below; clear hd_; replace BM := blk_below BM hb_; replace BR := blk_below BR hb_; replace hV := Kd.V_below hV hb_; replace HB := HB.trans (hb_.mono HB.size); clear hb_; (try clear km0_); (try clear zkm0_); (try clear km1_); (try clear zkm1_); (try clear km2_); (try clear zkm2_); (try clear km3_); (try clear zkm3_); (try clear km4_); (try clear zkm4_); (try clear km5_); (try clear zkm5_); (try clear km6_); (try clear zkm6_); (try clear kr0_); (try clear zkr0_); (try clear kr1_); (try clear zkr1_); (try clear kr2_); (try clear zkr2_); (try clear kr3_); (try clear zkr3_); (try clear kr4_); (try clear zkr4_); (try clear kr5_); (try clear zkr5_); (try clear kr6_); (try clear zkr6_); have km0_ : w9.cell? ⟨gm, 0, none⟩ = some (.int .u32 v) := (blk_cell BM 0).trans rfl; have zkm0_ := blk_frozen BM 0; have km1_ : w9.cell? ⟨gm, 1, none⟩ = some (.int .u32 m1) := (blk_cell BM 1).trans rfl; have zkm1_ := blk_frozen BM 1; have km2_ : w9.cell? ⟨gm, 2, none⟩ = some (.int .u32 m2) := (blk_cell BM 2).trans rfl; have zkm2_ := blk_frozen BM 2; have km3_ : w9.cell? ⟨gm, 3, none⟩ = some (.int .u32 m3) := (blk_cell BM 3).trans rfl; have zkm3_ := blk_frozen BM 3; have km4_ : w9.cell? ⟨gm, 4, none⟩ = some (.int .u32 m4) := (blk_cell BM 4).trans rfl; have zkm4_ := blk_frozen BM 4; have km5_ : w9.cell? ⟨gm, 5, none⟩ = some (.int .u32 m5) := (blk_cell BM 5).trans rfl; have zkm5_ := blk_frozen BM 5; have km6_ : w9.cell? ⟨gm, 6, none⟩ = some (.int .u32 m6) := (blk_cell BM 6).trans rfl; have zkm6_ := blk_frozen BM 6; have kr0_ : w9.cell? ⟨gr, 0, none⟩ = some (.int .u32 0) := (blk_cell BR 0).trans rfl; have zkr0_ := blk_frozen BR 0; have kr1_ : w9.cell? ⟨gr, 1, none⟩ = some (.int .u32 0) := (blk_cell BR 1).trans rfl; have zkr1_ := blk_frozen BR 1; have kr2_ : w9.cell? ⟨gr, 2, none⟩ = some (.int .u32 0) := (blk_cell BR 2).trans rfl; have zkr2_ := blk_frozen BR 2; have kr3_ : w9.cell? ⟨gr, 3, none⟩ = some (.int .u32 0) := (blk_cell BR 3).trans rfl; have zkr3_ := blk_frozen BR 3; have kr4_ : w9.cell? ⟨gr, 4, none⟩ = some (.int .u32 0) := (blk_cell BR 4).trans rfl; have zkr4_ := blk_frozen BR 4; have kr5_ : w9.cell? ⟨gr, 5, none⟩ = some (.int .u32 0) := (blk_cell BR 5).trans rfl; have zkr5_ := blk_frozen BR 5; have kr6_ : w9.cell? ⟨gr, 6, none⟩ = some (.int .u32 0) := (blk_cell BR 6).trans rfl; have zkr6_ := blk_frozen BR 6))
     go_roundg k2
     case measure => exact Nat.lt_succ_self _
     case rel => exact ⟨4, fs, A, c, m1, m2, m3, m4, m5, m6, rfl, (by first | rfl | (simp; done)), ⟨by omega⟩, ⟨by omega⟩, ⟨hres⟩, ⟨hV⟩, ⟨BM⟩, ⟨BR⟩, ⟨HB⟩⟩
    | true =>
     rw [if_pos ⟨by decide, hb.symm⟩] at hres
     clear hb
     cases fs with
     | nil =>
      simp only [Prod.mk.injEq] at hres
      obtain ⟨rfl, rfl, rfl, rfl, rfl, rfl, rfl, rfl⟩ := hres
      simp only [List.length_nil]
      simp only [List.length_nil] at hV
      go_wp2_with (first | (go_at_call 20; (with_reducible refine (msg_part.calls v 3 true _ (hG.below HB) AP.out).mono ?_); rintro e w9 ⟨rfl, hd_⟩; have hb_ := hd_.below; clear hd_; replace BM := blk_below BM hb_; replace BR := blk_below BR hb_; replace hV := Kd.V_below hV hb_; replace HB := HB.trans (hb_.mono HB.size); clear hb_; (try clear km0_); (try clear zkm0_); (try clear km1_); (try clear zkm1_); (try clear km2_); (try clear zkm2_); (try clear km3_); (try clear zkm3_); (try clear km4_); (try clear zkm4_); (try clear km5_); (try clear zkm5_); (try clear km6_); (try clear zkm6_); (try clear kr0_); (try clear zkr0_); (try clear kr1_); (try clear zkr1_); (try clear kr2_); (try clear zkr2_); (try clear kr3_); (try clear zkr3_); (try clear kr4_); (try clear zkr4_); (try clear kr5_); (try clear zkr5_); (try clear kr6_); (try clear zkr6_); have km0_ : w9.cell? ⟨gm, 0, none⟩ = some (.int .u32 v) := (blk_cell BM 0).trans rfl; have zkm0_ := blk_frozen BM 0; have km1_ : w9.cell? ⟨gm, 1, none⟩ = some (.int .u32 m1) := (blk_cell BM 1).trans rfl; have zkm1_ := blk_frozen BM 1; have km2_ : w9.cell? ⟨gm, 2, none⟩ = some (.int .u32 m2) := (blk_cell BM 2).trans rfl; have zkm2_ := blk_frozen BM 2; have km3_ : w9.cell? ⟨gm, 3, none⟩ = some (.int .u32 m3) := (blk_cell BM 3).trans rfl; have zkm3_ := blk_frozen BM 3; have km4_ : w9.cell? ⟨gm, 4, none⟩ = some (.int .u32 m4) := (blk_cell BM 4).trans rfl; have zkm4_ := blk_frozen BM 4; have km5_ : w9.cell? ⟨gm, 5, none⟩ = some (.int .u32 m5) := (blk_cell BM 5).trans rfl; have zkm5_ := blk_frozen BM 5; have km6_ : w9.cell? ⟨gm, 6, none⟩ = some (.int .u32 m6) := (blk_cell BM 6).trans rfl; have zkm6_ := blk_frozen BM 6; have kr0_ : w9.cell? ⟨gr, 0, none⟩ = some (.int .u32 0) := (blk_cell BR 0).trans rfl; have zkr0_ := blk_frozen BR 0; have kr1_ : w9.cell? ⟨gr, 1, none⟩ = some (.int .u32 0) := (blk_cell BR 1).trans rfl; have zkr1_ := blk_frozen BR 1; have kr2_ : w9.cell? ⟨gr, 2, none⟩ = some (.int .u32 0) := (blk_cell BR 2).trans rfl; have zkr2_ := blk_frozen BR 2; have kr3_ : w9.cell? ⟨gr, 3, none⟩ = some (.int .u32 0) := (blk_cell BR 3).trans rfl; have zkr3_ := blk_frozen BR 3; have kr4_ : w9.cell? ⟨gr, 4, none⟩ = some (.int .u32 0) := (blk_cell BR 4).trans rfl; have zkr4_ := blk_frozen BR 4; have kr5_ : w9.cell? ⟨gr, 5, none⟩ = some (.int .u32 0) := (blk_cell BR 5).trans rfl; have zkr5_ := blk_frozen BR 5; have kr6_ : w9.cell? ⟨gr, 6, none⟩ = some (.int .u32 0) := (blk_cell BR 6).trans rfl; have zkr6_ := blk_frozen BR 6) | ((with_reducible refine gate_store (t := 24) (p := 2) rfl ?_); refine store_event (t := 24) (p := 2) (v := ?vog3_) (w1 := (((((((w9.setCell ⟨gr, 0, none⟩ (.int .u32 0)).setCell ⟨gr, 1, none⟩ (.int .u32 0)).setCell ⟨gr, 2, none⟩ (.int .u32 0)).setCell ⟨gr, 3, none⟩ (.int .u32 0)).setCell ⟨gr, 4, none⟩ (.int .u32 0)).setCell ⟨gr, 5, none⟩ (.int .u32 0)).setCell ⟨gr, 6, none⟩ (.int .u32 0))) ?hg ?ho ?hn ?hr ?_; (case ho => rfl); (case hg => rfl); (case hn => rfl); (case hr => first | (go_simp; done) | (go_simp; rfl)); intro W11 hw; have BR_ := (by rw [hw]; exact bp7_ BR : W11.heap[gr]? = some (.cells vA0 24 (0, 0))); have HB_ := (by rw [hw]; exact (below_set (below_set (below_set (below_set (below_set (below_set (below_set HB wgr) wgr) wgr) wgr) wgr) wgr) wgr) : Below w.heap.size w W11); clear hw HB BR; have HB := HB_; have BR := BR_; clear HB_ BR_; (try clear kr0_); (try clear zkr0_); (try clear kr1_); (try clear zkr1_); (try clear kr2_); (try clear zkr2_); (try clear kr3_); (try clear zkr3_); (try clear kr4_); (try clear zkr4_); (try clear kr5_); (try clear zkr5_); (try clear kr6_); (try clear zkr6_)))
      refine bodyPost_ret (results_ct rfl _ _ gr 24 vA0 (0, 0) _ rfl BR Tryd.underlying24 rfl (by kernel_rfl)) rfl ?_
      exact ⟨rfl, HB⟩
     | cons f ft =>
     dsimp only at hres
     obtain ⟨ad, A1, c1, eA, hx0, hx0', hx1, hx1', hi1⟩ := msg.first hV
     subst eA
     obtain ⟨Ar, hVr, HCut⟩ := msg.rest hV
     obtain ⟨cr, hcr⟩ : ∃ cr, cr = c - 1 := ⟨_, rfl⟩
     rw [← hcr] at hVr HCut
     clear hcr
     obtain ⟨N, hN⟩ : ∃ N, N = (f :: ft).length := ⟨_, rfl⟩
     rw [← hN] at hV HCut ⊢
     have hNp : 1 ≤ N := by rw [hN, List.length_cons]; omega
     have n0 : ((N : Int) == 0) = false := beq_eq_false_iff_ne.mpr (by omega)
     have n1 : (N == 0) = false := beq_eq_false_iff_ne.mpr (by omega)
     have n2 : decide (N = 0) = false := decide_eq_false (by omega)
     have n3 : (0 < N) = True := eq_true (by omega)
     have n4 : ((0 : Int) < (N : Int)) = True := eq_true (by omega)
     clear hN hNp
     by_cases c1_ : f.f0 = 3
     rotate_left
     ·
      rw [if_neg (fun q_ => c1_ q_.1)] at hres
      simp only [Prod.mk.injEq] at hres
      obtain ⟨rfl, rfl, rfl, rfl, rfl, rfl, rfl, rfl⟩ := hres
      have e1 : (f.f0 != 3) = true := bne_iff_ne.mpr c1_
      have e2 : (f.f0 == 3) = false := beq_eq_false_iff_ne.mpr c1_
      clear hVr HCut hi1
      go_wp2_with (first | (go_at_call 20; (with_reducible refine (msg_part.calls v 3 true _ (hG.below HB) AP.out).mono ?_); rintro e w9 ⟨rfl, hd_⟩; have hb_ := hd_.below; clear hd_; replace BM := blk_below BM hb_; replace BR := blk_below BR hb_; replace hV := Kd.V_below hV hb_; replace HB := HB.trans (hb_.mono HB.size); replace hx0 := pw_cell_below hb_ hx0; replace hx0' := pw_cell_below hb_ hx0'; replace hx1 := pw_cell_below hb_ hx1; replace hx1' := pw_cell_below hb_ hx1'; clear hb_; (try clear km0_); (try clear zkm0_); (try clear km1_); (try clear zkm1_); (try clear km2_); (try clear zkm2_); (try clear km3_); (try clear zkm3_); (try clear km4_); (try clear zkm4_); (try clear km5_); (try clear zkm5_); (try clear km6_); (try clear zkm6_); (try clear kr0_); (try clear zkr0_); (try clear kr1_); (try clear zkr1_); (try clear kr2_); (try clear zkr2_); (try clear kr3_); (try clear zkr3_); (try clear kr4_); (try clear zkr4_); (try clear kr5_); (try clear zkr5_); (try clear kr6_); (try clear zkr6_); have km0_ : w9.cell? ⟨gm, 0, none⟩ = some (.int .u32 v) := (blk_cell BM 0).trans rfl; have zkm0_ := blk_frozen BM 0; have km1_ : w9.cell? ⟨gm, 1, none⟩ = some (.int .u32 m1) := (blk_cell BM 1).trans rfl; have zkm1_ := blk_frozen BM 1; have km2_ : w9.cell? ⟨gm, 2, none⟩ = some (.int .u32 m2) := (blk_cell BM 2).trans rfl; have zkm2_ := blk_frozen BM 2; have km3_ : w9.cell? ⟨gm, 3, none⟩ = some (.int .u32 m3) := (blk_cell BM 3).trans rfl; have zkm3_ := blk_frozen BM 3; have km4_ : w9.cell? ⟨gm, 4, none⟩ = some (.int .u32 m4) := (blk_cell BM 4).trans rfl; have zkm4_ := blk_frozen BM 4; have km5_ : w9.cell? ⟨gm, 5, none⟩ = some (.int .u32 m5) := (blk_cell BM 5).trans rfl; have zkm5_ := blk_frozen BM 5; have km6_ : w9.cell? ⟨gm, 6, none⟩ = some (.int .u32 m6) := (blk_cell BM 6).trans rfl; have zkm6_ := blk_frozen BM 6; have kr0_ : w9.cell? ⟨gr, 0, none⟩ = some (.int .u32 0) := (blk_cell BR 0).trans rfl; have zkr0_ := blk_frozen BR 0; have kr1_ : w9.cell? ⟨gr, 1, none⟩ = some (.int .u32 0) := (blk_cell BR 1).trans rfl; have zkr1_ := blk_frozen BR 1; have kr2_ : w9.cell? ⟨gr, 2, none⟩ = some (.int .u32 0) := (blk_cell BR 2).trans rfl; have zkr2_ := blk_frozen BR 2; have kr3_ : w9.cell? ⟨gr, 3, none⟩ = some (.int .u32 0) := (blk_cell BR 3).trans rfl; have zkr3_ := blk_frozen BR 3; have kr4_ : w9.cell? ⟨gr, 4, none⟩ = some (.int .u32 0) := (blk_cell BR 4).trans rfl; have zkr4_ := blk_frozen BR 4; have kr5_ : w9.cell? ⟨gr, 5, none⟩ = some (.int .u32 0) := (blk_cell BR 5).trans rfl; have zkr5_ := blk_frozen BR 5; have kr6_ : w9.cell? ⟨gr, 6, none⟩ = some (.int .u32 0) := (blk_cell BR 6).trans rfl; have zkr6_ := blk_frozen BR 6) | ((with_reducible refine gate_store (t := 24) (p := 2) rfl ?_); refine store_event (t := 24) (p := 2) (v := ?voh3_) (w1 := (((((((w9.setCell ⟨gr, 0, none⟩ (.int .u32 0)).setCell ⟨gr, 1, none⟩ (.int .u32 0)).setCell ⟨gr, 2, none⟩ (.int .u32 0)).setCell ⟨gr, 3, none⟩ (.int .u32 0)).setCell ⟨gr, 4, none⟩ (.int .u32 0)).setCell ⟨gr, 5, none⟩ (.int .u32 0)).setCell ⟨gr, 6, none⟩ (.int .u32 0))) ?hg ?ho ?hn ?hr ?_; (case ho => rfl); (case hg => rfl); (case hn => rfl); (case hr => first | (go_simp; done) | (go_simp; rfl)); intro W12 hw; have BR_ := (by rw [hw]; exact bp7_ BR : W12.heap[gr]? = some (.cells vA0 24 (0, 0))); have HB_ := (by rw [hw]; exact (below_set (below_set (below_set (below_set (below_set (below_set (below_set HB wgr) wgr) wgr) wgr) wgr) wgr) wgr) : Below w.heap.size w W12); clear hw HB BR; have HB := HB_; have BR := BR_; clear HB_ BR_; (try clear kr0_); (try clear zkr0_); (try clear kr1_); (try clear zkr1_); (try clear kr2_); (try clear zkr2_); (try clear kr3_); (try clear zkr3_); (try clear kr4_); (try clear zkr4_); (try clear kr5_); (try clear zkr5_); (try clear kr6_); (try clear zkr6_)))
      refine bodyPost_ret (results_ct rfl _ _ gr 24 vA0 (0, 0) _ rfl BR Tryd.underlying24 rfl (by kernel_rfl)) rfl ?_
      exact ⟨rfl, HB⟩
     rw [c1_] at hx0 hx0'
     by_cases c2_ : f.f1.length = 1
     rotate_left
     ·
      rw [if_neg (fun q_ => c2_ q_.2)] at hres
      simp only [Prod.mk.injEq] at hres
      obtain ⟨rfl, rfl, rfl, rfl, rfl, rfl, rfl, rfl⟩ := hres
      have e1 : ((f.f1.length : Int) != 1) = true := bne_iff_ne.mpr (by omega)
      have e2 : (f.f1.length == 1) = false := beq_eq_false_iff_ne.mpr c2_
      have e3 : ((f.f1.length : Int) == 1) = false := beq_eq_false_iff_ne.mpr (by omega)
      have e4 : (f.f1.length != 1) = true := bne_iff_ne.mpr c2_
      clear hVr HCut hi1
      go_wp2_with (first | (go_at_call 20; (with_reducible refine (msg_part.calls v 3 true _ (hG.below HB) AP.out).mono ?_); rintro e w9 ⟨rfl, hd_⟩; have hb_ := hd_.below; clear hd_; replace BM := blk_below BM hb_; replace BR := blk_below BR hb_; replace hV := Kd.V_below hV hb_; replace HB := HB.trans (hb_.mono HB.size); replace hx0 := pw_cell_below hb_ hx0; replace hx0' := pw_cell_below hb_ hx0'; replace hx1 := pw_cell_below hb_ hx1; replace hx1' := pw_cell_below hb_ hx1'; clear hb_; (try clear km0_); (try clear zkm0_); (try clear km1_); (try clear zkm1_); (try clear km2_); (try clear zkm2_); (try clear km3_); (try clear zkm3_); (try clear km4_); (try clear zkm4_); (try clear km5_); (try clear zkm5_); (try clear km6_); (try clear zkm6_); (try clear kr0_); (try clear zkr0_); (try clear kr1_); (try clear zkr1_); (try clear kr2_); (try clear zkr2_); (try clear kr3_); (try clear zkr3_); (try clear kr4_); (try clear zkr4_); (try clear kr5_); (try clear zkr5_); (try clear kr6_); (try clear zkr6_); have km0_ : w9.cell? ⟨gm, 0, none⟩ = some (.int .u32 v) := (blk_cell BM 0).trans rfl; have zkm0_ := blk_frozen BM 0; have km1_ : w9.cell? ⟨gm, 1, none⟩ = some (.int .u32 m1) := (blk_cell BM 1).trans rfl; have zkm1_ := blk_frozen BM 1; have km2_ : w9.cell? ⟨gm, 2, none⟩ = some (.int .u32 m2) := (blk_cell BM 2).trans rfl; have zkm2_ := blk_frozen BM 2; have km3_ : w9.cell? ⟨gm, 3, none⟩ = some (.int .u32 m3) := (blk_cell BM 3).trans rfl; have zkm3_ := blk_frozen BM 3; have km4_ : w9.cell? ⟨gm, 4, none⟩ = some (.int .u32 m4) := (blk_cell BM 4).trans rfl; have zkm4_ := blk_frozen BM 4; have km5_ : w9.cell? ⟨gm, 5, none⟩ = some (.int .u32 m5) := (blk_cell BM 5).trans rfl; have zkm5_ := blk_frozen BM 5; have km6_ : w9.cell? ⟨gm, 6, none⟩ = some (.int .u32 m6) := (blk_cell BM 6).trans rfl; have zkm6_ := blk_frozen BM 6; have kr0_ : w9.cell? ⟨gr, 0, none⟩ = some (.int .u32 0) := (blk_cell BR 0).trans rfl; have zkr0_ := blk_frozen BR 0; have kr1_ : w9.cell? ⟨gr, 1, none⟩ = some (.int .u32 0) := (blk_cell BR 1).trans rfl; have zkr1_ := blk_frozen BR 1; have kr2_ : w9.cell? ⟨gr, 2, none⟩ = some (.int .u32 0) := (blk_cell BR 2).trans rfl; have zkr2_ := blk_frozen BR 2; have kr3_ : w9.cell? ⟨gr, 3, none⟩ = some (.int .u32 0) := (blk_cell BR 3).trans rfl; have zkr3_ := blk_frozen BR 3; have kr4_ : w9.cell? ⟨gr, 4, none⟩ = some (.int .u32 0) := (blk_cell BR 4).trans rfl; have zkr4_ := blk_frozen BR 4; have kr5_ : w9.cell? ⟨gr, 5, none⟩ = some (.int .u32 0) := (blk_cell BR 5).trans rfl; have zkr5_ := blk_frozen BR 5; have kr6_ : w9.cell? ⟨gr, 6, none⟩ = some (.int .u32 0) := (blk_cell BR 6).trans rfl; have zkr6_ := blk_frozen BR 6) | ((with_reducible refine gate_store (t := 24) (p := 2) rfl ?_); refine store_event (t := 24) (p := 2) (v := ?voi3_) (w1 := (((((((w9.setCell ⟨gr, 0, none⟩ (.int .u32 0)).setCell ⟨gr, 1, none⟩ (.int .u32 0)).setCell ⟨gr, 2, none⟩ (.int .u32 0)).setCell ⟨gr, 3, none⟩ (.int .u32 0)).setCell ⟨gr, 4, none⟩ (.int .u32 0)).setCell ⟨gr, 5, none⟩ (.int .u32 0)).setCell ⟨gr, 6, none⟩ (.int .u32 0))) ?hg ?ho ?hn ?hr ?_; (case ho => rfl); (case hg => rfl); (case hn => rfl); (case hr => first | (go_simp; done) | (go_simp; rfl)); intro W13 hw; have BR_ := (by rw [hw]; exact bp7_ BR : W13.heap[gr]? = some (.cells vA0 24 (0, 0))); have HB_ := (by rw [hw]; exact (below_set (below_set (below_set (below_set (below_set (below_set (below_set HB wgr) wgr) wgr) wgr) wgr) wgr) wgr) : Below w.heap.size w W13); clear hw HB BR; have HB := HB_; have BR := BR_; clear HB_ BR_; (try clear kr0_); (try clear zkr0_); (try clear kr1_); (try clear zkr1_); (try clear kr2_); (try clear zkr2_); (try clear kr3_); (try clear zkr3_); (try clear kr4_); (try clear zkr4_); (try clear kr5_); (try clear zkr5_); (try clear kr6_); (try clear zkr6_)))
      refine bodyPost_ret (results_ct rfl _ _ gr 24 vA0 (0, 0) _ rfl BR Tryd.underlying24 rfl (by kernel_rfl)) rfl ?_
      exact ⟨rfl, HB⟩
     rw [if_pos ⟨c1_, c2_⟩] at hres
     rw [c2_] at hx1 hx1'
     obtain ⟨ad1, e1A, hy⟩ := Kd.at_int hi1 0 (by decide) (by rw [c2_]; decide)
     subst e1A
     obtain ⟨u, hu⟩ : ∃ u, u = rd f.f1 0 := ⟨_, rfl⟩
     rw [← hu] at hy hres
     have hy : wr.cell? (ad1.add 0) = some (.int .u32 u) := hy
     have hy' : wr.cell? ad1 = some (.int .u32 u) := msg.add0 ad1 ▸ hy
     clear hi1 c1_ c2_ hu hV
     have hres2 : msg.res v 4 ft m1 u m3 m4 m5 m6 = (r1, r2, r3, r4, r5, r6, r7, r8) := hres
     clear hres
     go_wp2_with (first | (go_at_call 20; (with_reducible refine (msg_part.calls v 3 true _ (hG.below HB) AP.out).mono ?_); rintro e w9 ⟨rfl, hd_⟩; have hb_ := hd_.below; clear hd_; replace BM := blk_below BM hb_; replace BR := blk_below BR hb_; replace hVr := Kd.V_below hVr hb_; replace HB := HB.trans (hb_.mono HB.size); replace hx0 := pw_cell_below hb_ hx0; replace hx0' := pw_cell_below hb_ hx0'; replace hx1 := pw_cell_below hb_ hx1; replace hx1' := pw_cell_below hb_ hx1'; replace hy := pw_cell_below hb_ hy; replace hy' := pw_cell_below hb_ hy'; clear hb_; (try clear km0_); (try clear zkm0_); (try clear km1_); (try clear zkm1_); (try clear km2_); (try clear zkm2_); (try clear km3_); (try clear zkm3_); (try clear km4_); (try clear zkm4_); (try clear km5_); (try clear zkm5_); (try clear km6_); (try clear zkm6_); (try clear kr0_); (try clear zkr0_); (try clear kr1_); (try clear zkr1_); (try clear kr2_); (try clear zkr2_); (try clear kr3_); (try clear zkr3_); (try clear kr4_); (try clear zkr4_); (try clear kr5_); (try clear zkr5_); (try clear kr6_); (try clear zkr6_); have km0_ : w9.cell? ⟨gm, 0, none⟩ = some (.int .u32 v) := (blk_cell BM 0).trans rfl; have zkm0_ := blk_frozen BM 0; have km1_ : w9.cell? ⟨gm, 1, none⟩ = some (.int .u32 m1) := (blk_cell BM 1).trans rfl; have zkm1_ := blk_frozen BM 1; have km2_ : w9.cell? ⟨gm, 2, none⟩ = some (.int .u32 m2) := (blk_cell BM 2).trans rfl; have zkm2_ := blk_frozen BM 2; have km3_ : w9.cell? ⟨gm, 3, none⟩ = some (.int .u32 m3) := (blk_cell BM 3).trans rfl; have zkm3_ := blk_frozen BM 3; have km4_ : w9.cell? ⟨gm, 4, none⟩ = some (.int .u32 m4) := (blk_cell BM 4).trans rfl; have zkm4_ := blk_frozen BM 4; have km5_ : w9.cell? ⟨gm, 5, none⟩ = some (.int .u32 m5) := (blk_cell BM 5).trans rfl; have zkm5_ := blk_frozen BM 5; have km6_ : w9.cell? ⟨gm, 6, none⟩ = some (.int .u32 m6) := (blk_cell BM 6).trans rfl; have zkm6_ := blk_frozen BM 6; have kr0_ : w9.cell? ⟨gr, 0, none⟩ = some (.int .u32 0) := (blk_cell BR 0).trans rfl; have zkr0_ := blk_frozen BR 0; have kr1_ : w9.cell? ⟨gr, 1, none⟩ = some (.int .u32 0) := (blk_cell BR 1).trans rfl; have zkr1_ := blk_frozen BR 1; have kr2_ : w9.cell? ⟨gr, 2, none⟩ = some (.int .u32 0) := (blk_cell BR 2).trans rfl; have zkr2_ := blk_frozen BR 2; have kr3_ : w9.cell? ⟨gr, 3, none⟩ = some (.int .u32 0) := (blk_cell BR 3).trans rfl; have zkr3_ := blk_frozen BR 3; have kr4_ : w9.cell? ⟨gr, 4, none⟩ = some (.int .u32 0) := (blk_cell BR 4).trans rfl; have zkr4_ := blk_frozen BR 4; have kr5_ : w9.cell? ⟨gr, 5, none⟩ = some (.int .u32 0) := (blk_cell BR 5).trans rfl; have zkr5_ := blk_frozen BR 5; have kr6_ : w9.cell? ⟨gr, 6, none⟩ = some (.int .u32 0) := (blk_cell BR 6).trans rfl; have zkr6_ := blk_frozen BR 6) | ((with_reducible refine gate_store (t := 22) (p := 108) rfl ?_); refine store_event (t := 22) (p := 108) (v := ?vw3_) (w1 := w9.setCell ⟨gm, 2, none⟩ (.int .u32 u)) ?hg ?ho ?hn ?hr ?_; (case ho => rfl); (case hg => rfl); (case hn => rfl); (case hr => first | (go_simp; done) | (go_simp; rfl)); intro W14 hw; have BM_ := (by rw [hw]; exact blk_put (cs := #[.int .u32 v, .int .u32 m1, .int .u32 m2, .int .u32 m3, .int .u32 m4, .int .u32 m5, .int .u32 m6]) (cs' := #[.int .u32 v, .int .u32 m1, .int .u32 u, .int .u32 m3, .int .u32 m4, .int .u32 m5, .int .u32 m6]) BM 2 _ rfl : W14.heap[gm]? = some (.cells #[.int .u32 v, .int .u32 m1, .int .u32 u, .int .u32 m3, .int .u32 m4, .int .u32 m5, .int .u32 m6] 24 (0, 0))); have BR_ := (by rw [hw]; exact blk_far (p := ⟨gm, 2, none⟩) BR (Nat.ne_of_lt lrm) _ : W14.heap[gr]? = some (.cells vA0 24 (0, 0))); have hV_ := (by rw [hw]; exact Kd.V_far (p := ⟨gm, 2, none⟩) hVr (fun k hk => hk.1) _ : Kd.V k45 45 W14 0 (fun k => k ≠ gm ∧ k ≠ gr) (.slice Ar ft.length cr) ft); have HB_ := (by rw [hw]; exact below_set (g := gm) (j := 2) (v := .int .u32 u) HB (Nat.le_trans wgr (Nat.le_of_lt lrm)) : Below w.heap.size w W14); clear hw BM BR hVr HB; have BM := BM_; have BR := BR_; have hV := hV_; have HB := HB_; clear BM_ BR_ hV_ HB_; (try clear km0_); (try clear zkm0_); (try clear km1_); (try clear zkm1_); (try clear km2_); (try clear zkm2_); (try clear km3_); (try clear zkm3_); (try clear km4_); (try clear zkm4_); (try clear km5_); (try clear zkm5_); (try clear km6_); (try clear zkm6_); (try clear kr0_); (try clear zkr0_); (try clear kr1_); (try clear zkr1_); (try clear kr2_); (try clear zkr2_); (try clear kr3_); (try clear zkr3_); (try clear kr4_); (try clear zkr4_); (try clear kr5_); (try clear zkr5_); (try clear kr6_); (try clear zkr6_)))
     go_roundg k2
     case measure => exact Nat.lt_succ_self _
     case rel => exact ⟨4, ft, Ar, cr, m1, u, m3, m4, m5, m6, rfl, (by first | rfl | (simp; done)), ⟨by omega⟩, ⟨by omega⟩, ⟨hres2⟩, ⟨hV⟩, ⟨BM⟩, ⟨BR⟩, ⟨HB⟩⟩
   ·
    have hI := msg.idx4 gm
    clear hi c_
    obtain ⟨b, hb⟩ : ∃ b, b = msg.hasB v 4 := ⟨_, rfl⟩
    have AP := Aside0.mk (show msg_part.f v 4 = some b by unfold msg_part.f; rw [if_pos ⟨hk, by decide⟩, hb])
    replace hres := (msg.res_succ v 3 fs m1 m2 m3 m4 m5 m6).symm.trans hres
    cases b with
    | false =>
     rw [if_neg (fun q_ => by have h2 := q_.2; rw [show msg.hasB v ((7 - 3 : Nat) : Int) = false from hb.symm] at h2; cases h2)] at hres
     clear hb
     go_wp2_with (first | (go_at_call 20; (with_reducible refine (msg_part.calls v 4 false _ (hG.below HB) AP.out).mono ?_); rintro e w9 ⟨rfl, hd_⟩; have hb_ := hd_.below; clear hd_; replace BM := blk_below BM hb_; replace BR := blk_below BR hb_; replace hV := Kd.V_below hV hb_; replace HB := HB.trans (hb_.mono HB.size); clear hb_; (try clear km0_); (try clear zkm0_); (try clear km1_); (try clear zkm1_); (try clear km2_); (try clear zkm2_); (try clear km3_); (try clear zkm3_); (try clear km4_); (try clear zkm4_); (try clear km5_); (try clear zkm5_); (try clear km6_); (try clear zkm6_); (try clear kr0_); (try clear zkr0_); (try clear kr1_); (try clear zkr1_); (try clear kr2_); (try clear zkr2_); (try clear kr3_); (try clear zkr3_); (try clear kr4_); (try clear zkr4_); (try clear kr5_); (try clear zkr5_); (try clear kr6_); (try clear zkr6_); have km0_ : w9.cell? ⟨gm, 0, none⟩ = some (.int .u32 v) := (blk_cell BM 0).trans rfl; have zkm0_ := blk_frozen BM 0; have km1_ : w9.cell? ⟨gm, 1, none⟩ = some (.int .u32 m1) := (blk_cell BM 1).trans rfl; have zkm1_ := blk_frozen BM 1; have km2_ : w9.cell? ⟨gm, 2, none⟩ = some (.int .u32 m2) := (blk_cell BM 2).trans rfl; have zkm2_ := blk_frozen BM 2; have km3_ : w9.cell? ⟨gm, 3, none⟩ = some (.int .u32 m3) := (blk_cell BM 3).trans rfl; have zkm3_ := blk_frozen BM 3; have km4_ : w9.cell? ⟨gm, 4, none⟩ = some (.int .u32 m4) := (blk_cell BM 4).trans rfl; have zkm4_ := blk_frozen BM 4; have km5_ : w9.cell? ⟨gm, 5, none⟩ = some (.int .u32 m5) := (blk_cell BM 5).trans rfl; have zkm5_ := blk_frozen BM 5; have km6_ : w9.cell? ⟨gm, 6, none⟩ = some (.int .u32 m6) := (blk_cell BM 6).trans rfl; have zkm6_ := blk_frozen BM 6; have kr0_ : w9.cell? ⟨gr, 0, none⟩ = some (.int .u32 0) := (blk_cell BR 0).trans rfl; have zkr0_ := blk_frozen BR 0; have kr1_ : w9.cell? ⟨gr, 1, none⟩ = some (.int .u32 0) := (blk_cell BR 1).trans rfl; have zkr1_ := blk_frozen BR 1; have kr2_ : w9.cell? ⟨gr, 2, none⟩ = some (.int .u32 0) := (blk_cell BR 2).trans rfl; have zkr2_ := blk_frozen BR 2; have kr3_ : w9.cell? ⟨gr, 3, none⟩ = some (.int .u32 0) := (blk_cell BR 3).trans rfl; have zkr3_ := blk_frozen BR 3; have kr4_ : w9.cell? ⟨gr, 4, none⟩ = some (.int .u32 0) := (blk_cell BR 4).trans rfl; have zkr4_ := blk_frozen BR 4; have kr5_ : w9.cell? ⟨gr, 5, none⟩ = some (.int .u32 0) := (blk_cell BR 5).trans rfl; have zkr5_ := blk_frozen BR 5; have kr6_ : w9.cell? ⟨gr, 6, none⟩ = some (.int .u32 0) := (blk_cell BR 6).trans rfl; have zkr6_ := blk_frozen BR 6))
     go_roundg k2
     case measure => exact Nat.lt_succ_self _
     case rel => exact ⟨5, fs, A, c, m1, m2, m3, m4, m5, m6, rfl, (by first | rfl | (simp; done)), ⟨by omega⟩, ⟨by omega⟩, ⟨hres⟩, ⟨hV⟩, ⟨BM⟩, ⟨BR⟩, ⟨HB⟩⟩
    | true =>
     rw [if_pos ⟨by decide, hb.symm⟩] at hres
     clear hb
     cases fs with
     | nil =>
      simp only [Prod.mk.injEq] at hres
      obtain ⟨rfl, rfl, rfl, rfl, rfl, rfl, rfl, rfl⟩ := hres
      simp only [List.length_nil]
      simp only [List.length_nil] at hV
      go_wp2_with (first | (go_at_call 20; (with_reducible refine (msg_part.calls v 4 true _ (hG.below HB) AP.out).mono ?_); rintro e w9 ⟨rfl, hd_⟩; have hb_ := hd_.below; clear hd_; replace BM := blk_below BM hb_; replace BR := blk_below BR hb_; replace hV := Kd.V_below hV hb_; replace HB := HB.trans (hb_.mono HB.size); clear hb_; (try clear km0_); (try clear zkm0_); (try clear km1_); (try clear zkm1_); (try clear km2_); (try clear zkm2_); (try clear km3_); (try clear zkm3_); (try clear km4_); (try clear zkm4_); (try clear km5_); (try clear zkm5_); (try clear km6_); (try clear zkm6_); (try clear kr0_); (try clear zkr0_); (try clear kr1_); (try clear zkr1_); (try clear kr2_); (try clear zkr2_); (try clear kr3_); (try clear zkr3_); (try clear kr4_); (try clear zkr4_); (try clear kr5_); (try clear zkr5_); (try clear kr6_); (try clear zkr6_); have km0_ : w9.cell? ⟨gm, 0, none⟩ = some (.int .u32 v) := (blk_cell BM 0).trans rfl; have zkm0_ := blk_frozen BM 0; have km1_ : w9.cell? ⟨gm, 1, none⟩ = some (.int .u32 m1) := (blk_cell BM 1).trans rfl; have zkm1_ := blk_frozen BM 1; have km2_ : w9.cell? ⟨gm, 2, none⟩ = some (.int .u32 m2) := (blk_cell BM 2).trans rfl; have zkm2_ := blk_frozen BM 2; have km3_ : w9.cell? ⟨gm, 3, none⟩ = some (.int .u32 m3) := (blk_cell BM 3).trans rfl; have zkm3_ := blk_frozen BM 3; have km4_ : w9.cell? ⟨gm, 4, none⟩ = some (.int .u32 m4) := (blk_cell BM 4).trans rfl; have zkm4_ := blk_frozen BM 4; have km5_ : w9.cell? ⟨gm, 5, none⟩ = some (.int .u32 m5) := (blk_cell BM 5).trans rfl; have zkm5_ := blk_frozen BM 5; have km6_ : w9.cell? ⟨gm, 6, none⟩ = some (.int .u32 m6) := (blk_cell BM 6).trans rfl; have zkm6_ := blk_frozen BM 6; have kr0_ : w9.cell? ⟨gr, 0, none⟩ = some (.int .u32 0) := (blk_cell BR 0).trans rfl; have zkr0_ := blk_frozen BR 0; have kr1_ : w9.cell? ⟨gr, 1, none⟩ = some (.int .u32 0) := (blk_cell BR 1).trans rfl; have zkr1_ := blk_frozen BR 1; have kr2_ : w9.cell? ⟨gr, 2, none⟩ = some (.int .u32 0) := (blk_cell BR 2).trans rfl; have zkr2_ := blk_frozen BR 2; have kr3_ : w9.cell? ⟨gr, 3, none⟩ = some (.int .u32 0) := (blk_cell BR 3).trans rfl; have zkr3_ := blk_frozen BR 3; have kr4_ : w9.cell? ⟨gr, 4, none⟩ = some (.int .u32 0) := (blk_cell BR 4).trans rfl; have zkr4_ := blk_frozen BR 4; have kr5_ : w9.cell? ⟨gr, 5, none⟩ = some (.int .u32 0) := (blk_cell BR 5).trans rfl; have zkr5_ := blk_frozen BR 5; have kr6_ : w9.cell? ⟨gr, 6, none⟩ = some (.int .u32 0) := (blk_cell BR 6).trans rfl; have zkr6_ := blk_frozen BR 6) | ((with_reducible refine gate_store (t := 24) (p := 2) rfl ?_); refine store_event (t := 24) (p := 2) (v := ?vog4_) (w1 := (((((((w9.setCell ⟨gr, 0, none⟩ (.int .u32 0)).setCell ⟨gr, 1, none⟩ (.int .u32 0)).setCell ⟨gr, 2, none⟩ (.int .u32 0)).setCell ⟨gr, 3, none⟩ (.int .u32 0)).setCell ⟨gr, 4, none⟩ (.int .u32 0)).setCell ⟨gr, 5, none⟩ (.int .u32 0)).setCell ⟨gr, 6, none⟩ (.int .u32 0))) ?hg ?ho ?hn ?hr ?_; (case ho => rfl); (case hg => rfl); (case hn => rfl); (case hr => first | (go_simp; done) | (go_simp; rfl)); intro W11 hw; have BR_ := (by rw [hw]; exact bp7_ BR : W11.heap[gr]? = some (.cells vA0 24 (0, 0))); have HB_ := (by rw [hw]; exact (below_set (below_set (below_set (below_set (below_set (below_set (below_set HB wgr) wgr) wgr) wgr) wgr) wgr) wgr) : Below w.heap.size w W11); clear hw HB BR; have HB := HB_; have BR := BR_; clear HB_ BR_; (try clear kr0_); (try clear zkr0_); (try clear kr1_); (try clear zkr1_); (try clear kr2_); (try clear zkr2_); (try clear kr3_); (try clear zkr3_); (try clear kr4_); (try clear zkr4_); (try clear kr5_); (try clear zkr5_); (try clear kr6_); (try clear zkr6_)))
      refine bodyPost_ret (results_ct rfl _ _ gr 24 vA0 (0, 0) _ rfl BR Tryd.underlying24 rfl (by kernel_rfl)) rfl ?_
      exact ⟨rfl, HB⟩
     | cons f ft =>
     dsimp only at hres
     obtain ⟨ad, A1, c1, eA, hx0, hx0', hx1, hx1', hi1⟩ := msg.first hV
     subst eA
     obtain ⟨Ar, hVr, HCut⟩ := msg.rest hV
     obtain ⟨cr, hcr⟩ : ∃ cr, cr = c - 1 := ⟨_, rfl⟩
     rw [← hcr] at hVr HCut
     clear hcr
     obtain ⟨N, hN⟩ : ∃ N, N = (f :: ft).length := ⟨_, rfl⟩
     rw [← hN] at hV HCut ⊢
     have hNp : 1 ≤ N := by rw [hN, List.length_cons]; omega
     have n0 : ((N : Int) == 0) = false := beq_eq_false_iff_ne.mpr (by omega)
     have n1 : (N == 0) = false := beq_eq_false_iff_ne.mpr (by omega)
     have n2 : decide (N = 0) = false := decide_eq_false (by omega)
     have n3 : (0 < N) = True := eq_true (by omega)
     have n4 : ((0 : Int) < (N : Int)) = True := eq_true (by omega)
     clear hN hNp
     by_cases c1_ : f.f0 = 4
     rotate_left
     ·
      rw [if_neg (fun q_ => c1_ q_.1)] at hres
      simp only [Prod.mk.injEq] at hres
      obtain ⟨rfl, rfl, rfl, rfl, rfl, rfl, rfl, rfl⟩ := hres
      have e1 : (f.f0 != 4) = true := bne_iff_ne.mpr c1_
      have e2 : (f.f0 == 4) = false := beq_eq_false_iff_ne.mpr c1_
      clear hVr HCut hi1
      go_wp2_with (first | (go_at_call 20; (with_reducible refine (msg_part.calls v 4 true _ (hG.below HB) AP.out).mono ?_); rintro e w9 ⟨rfl, hd_⟩; have hb_ := hd_.below; clear hd_; replace BM := blk_below BM hb_; replace BR := blk_below BR hb_; replace hV := Kd.V_below hV hb_; replace HB := HB.trans (hb_.mono HB.size); replace hx0 := pw_cell_below hb_ hx0; replace hx0' := pw_cell_below hb_ hx0'; replace hx1 := pw_cell_below hb_ hx1; replace hx1' := pw_cell_below hb_ hx1'; clear hb_; (try clear km0_); (try clear zkm0_); (try clear km1_); (try clear zkm1_); (try clear km2_); (try clear zkm2_); (try clear km3_); (try clear zkm3_); (try clear km4_); (try clear zkm4_); (try clear km5_); (try clear zkm5_); (try clear km6_); (try clear zkm6_); (try clear kr0_); (try clear zkr0_); (try clear kr1_); (try clear zkr1_); (try clear kr2_); (try clear zkr2_); (try clear kr3_); (try clear zkr3_); (try clear kr4_); (try clear zkr4_); (try clear kr5_); (try clear zkr5_); (try clear kr6_); (try clear zkr6_); have km0_ : w9.cell? ⟨gm, 0, none⟩ = some (.int .u32 v) := (blk_cell BM 0).trans rfl; have zkm0_ := blk_frozen BM 0; have km1_ : w9.cell? ⟨gm, 1, none⟩ = some (.int .u32 m1) := (blk_cell BM 1).trans rfl; have zkm1_ := blk_frozen BM 1; have km2_ : w9.cell? ⟨gm, 2, none⟩ = some (.int .u32 m2) := (blk_cell BM 2).trans rfl; have zkm2_ := blk_frozen BM 2; have km3_ : w9.cell? ⟨gm, 3, none⟩ = some (.int .u32 m3) := (blk_cell BM 3).trans rfl; have zkm3_ := blk_frozen BM 3; have km4_ : w9.cell? ⟨gm, 4, none⟩ = some (.int .u32 m4) := (blk_cell BM 4).trans rfl; have zkm4_ := blk_frozen BM 4; have km5_ : w9.cell? ⟨gm, 5, none⟩ = some (.int .u32 m5) := (blk_cell BM 5).trans rfl; have zkm5_ := blk_frozen BM 5; have km6_ : w9.cell? ⟨gm, 6, none⟩ = some (.int .u32 m6) := (blk_cell BM 6).trans rfl; have zkm6_ := blk_frozen BM 6; have kr0_ : w9.cell? ⟨gr, 0, none⟩ = some (.int .u32 0) := (blk_cell BR 0).trans rfl; have zkr0_ := blk_frozen BR 0; have kr1_ : w9.cell? ⟨gr, 1, none⟩ = some (.int .u32 0) := (blk_cell BR 1).trans rfl; have zkr1_ := blk_frozen BR 1; have kr2_ : w9.cell? ⟨gr, 2, none⟩ = some (.int .u32 0) := (blk_cell BR 2).trans rfl; have zkr2_ := blk_frozen BR 2; have kr3_ : w9.cell? ⟨gr, 3, none⟩ = some (.int .u32 0) := (blk_cell BR 3).trans rfl; have zkr3_ := blk_frozen BR 3; have kr4_ : w9.cell? ⟨gr, 4, none⟩ = some (.int .u32 0) := (blk_cell BR 4).trans rfl; have zkr4_ := blk_frozen BR 4; have kr5_ : w9.cell? ⟨gr, 5, none⟩ = some (.int .u32 0) := (blk_cell BR 5).trans rfl; have zkr5_ := blk_frozen BR 5; have kr6_ : w9.cell? ⟨gr, 6, none⟩ = some (.int .u32 0) := (blk_cell BR 6).trans rfl; have zkr6_ := blk_frozen BR 6) | ((with_reducible refine gate_store (t := 24) (p := 2) rfl ?_); refine store_event (t := 24) (p := 2) (v := ?voh4_) (w1 := (((((((w9.setCell ⟨gr, 0, none⟩ (.int .u32 0)).setCell ⟨gr, 1, none⟩ (.int .u32 0)).setCell ⟨gr, 2, none⟩ (.int .u32 0)).setCell ⟨gr, 3, none⟩ (.int .u32 0)).setCell ⟨gr, 4, none⟩ (.int .u32 0)).setCell ⟨gr, 5, none⟩ (.int .u32 0)).setCell ⟨gr, 6, none⟩ (.int .u32 0))) ?hg ?ho ?hn ?hr ?_; (case ho => rfl); (case hg => rfl); (case hn => rfl); (case hr => first | (go_simp; done) | (go_simp; rfl)); intro W12 hw; have BR_ := (by rw [hw]; exact bp7_ BR : W12.heap[gr]? = some (.cells vA0 24 (0, 0))); have HB_ := (by rw [hw]; exact (below_set (below_set (below_set (below_set (below_set (below_set (below_set HB wgr) wgr) wgr) wgr) wgr) wgr) wgr) : Below w.heap.size w W12); clear hw HB BR; have HB := HB_; have BR := BR_; clear HB_ BR_; (try clear kr0_); (try clear zkr0_); (try clear kr1_); (try clear zkr1_); (try clear kr2_); (try clear zkr2_); (try clear kr3_); (try clear zkr3_); (try clear kr4_); (try clear zkr4_); (try clear kr5_); (try clear zkr5_); (try clear kr6_); (try clear zkr6_)))
      refine bodyPost_ret (results_ct rfl _ _ gr 24 vA0 (0, 0) _ rfl BR Tryd.underlying24 rfl (by kernel_rfl)) rfl ?_
      exact ⟨rfl, HB⟩
     rw [c1_] at hx0 hx0'
     by_cases c2_ : f.f1.length = 1
     rotate_left
     ·
      rw [if_neg (fun q_ => c2_ q_.2)] at hres
      simp only [Prod.mk.injEq] at hres
      obtain ⟨rfl, rfl, rfl, rfl, rfl, rfl, rfl, rfl⟩ := hres
      have e1 : ((f.f1.length : Int) != 1) = true := bne_iff_ne.mpr (by omega)
      have e2 : (f.f1.length == 1) = false := beq_eq_false_iff_ne.mpr c2_
      have e3 : ((f.f1.length : Int) == 1) = false := beq_eq_false_iff_ne.mpr (by omega)
      have e4 : (f.f1.length != 1) = true := bne_iff_ne.mpr c2_
      clear hVr HCut hi1
      go_wp2_with (first | (go_at_call 20; (with_reducible refine (msg_part.calls v 4 true _ (hG.below HB) AP.out).mono ?_); rintro e w9 ⟨rfl, hd_⟩; have hb_ := hd_.below; clear hd_; replace BM := blk_below BM hb_; replace BR := blk_below BR hb_; replace hV := Kd.V_below hV hb_; replace HB := HB.trans (hb_.mono HB.size); replace hx0 := pw_cell_below hb_ hx0; replace hx0' := pw_cell_below hb_ hx0'; replace hx1 := pw_cell_below hb_ hx1; replace hx1' := pw_cell_below hb_ hx1'; clear hb_; (try clear km0_); (try clear zkm0_); (try clear km1_); (try clear zkm1_); (try clear km2_); (try clear zkm2_); (try clear km3_); (try clear zkm3_); (try clear km4_); (try clear zkm4_); (try clear km5_); (try clear zkm5_); (try clear km6_); (try clear zkm6_); (try clear kr0_); (try clear zkr0_); (try clear kr1_); (try clear zkr1_); (try clear kr2_); (try clear zkr2_); (try clear kr3_); (try clear zkr3_); (try clear kr4_); (try clear zkr4_); (try clear kr5_); (try clear zkr5_); (try clear kr6_); (try clear zkr6_); have km0_ : w9.cell? ⟨gm, 0, none⟩ = some (.int .u32 v) := (blk_cell BM 0).trans rfl; have zkm0_ := blk_frozen BM 0; have km1_ : w9.cell? ⟨gm, 1, none⟩ = some (.int .u32 m1) := (blk_cell BM 1).trans rfl; have zkm1_ := blk_frozen BM 1; have km2_ : w9.cell? ⟨gm, 2, none⟩ = some (.int .u32 m2) := (blk_cell BM 2).trans rfl; have zkm2_ := blk_frozen BM 2; have km3_ : w9.cell? ⟨gm, 3, none⟩ = some (.int .u32 m3) := (blk_cell BM 3).trans rfl; have zkm3_ := blk_frozen BM 3; have km4_ : w9.cell? ⟨gm, 4, none⟩ = some (.int .u32 m4) := (blk_cell BM 4).trans rfl; have zkm4_ := blk_frozen BM 4; have km5_ : w9.cell? ⟨gm, 5, none⟩ = some (.int .u32 m5) := (blk_cell BM 5).trans rfl; have zkm5_ := blk_frozen BM 5; have km6_ : w9.cell? ⟨gm, 6, none⟩ = some (.int .u32 m6) := (blk_cell BM 6).trans rfl; have zkm6_ := blk_frozen BM 6; have kr0_ : w9.cell? ⟨gr, 0, none⟩ = some (.int .u32 0) := (blk_cell BR 0).trans rfl; have zkr0_ := blk_frozen BR 0; have kr1_ : w9.cell? ⟨gr, 1, none⟩ = some (.int .u32 0) := (blk_cell BR 1).trans rfl; have zkr1_ := blk_frozen BR 1; have kr2_ : w9.cell? ⟨gr, 2, none⟩ = some (.int .u32 0) := (blk_cell BR 2).trans rfl; have zkr2_ := blk_frozen BR 2; have kr3_ : w9.cell? ⟨gr, 3, none⟩ = some (.int .u32 0) := (blk_cell BR 3).trans rfl; have zkr3_ := blk_frozen BR 3; have kr4_ : w9.cell? ⟨gr, 4, none⟩ = some (.int .u32 0) := (blk_cell BR 4).trans rfl; have zkr4_ := blk_frozen BR 4; have kr5_ : w9.cell? ⟨gr, 5, none⟩ = some (.int .u32 0) := (blk_cell BR 5).trans rfl; have zkr5_ := blk_frozen BR 5; have kr6_ : w9.cell? ⟨gr, 6, none⟩ = some (.int .u32 0) := (blk_cell BR 6).trans rfl; have zkr6_ := blk_frozen BR 6) | ((with_reducible refine gate_store (t := 24) (p := 2) rfl ?_); refine store_event (t := 24) (p := 2) (v := ?voi4_) (w1 := (((((((w9.setCell ⟨gr, 0, none⟩ (.int .u32 0)).setCell ⟨gr, 1, none⟩ (.int .u32 0)).setCell ⟨gr, 2, none⟩ (.int .u32 0)).setCell ⟨gr, 3, none⟩ (.int .u32 0)).setCell ⟨gr, 4, none⟩ (.int .u32 0)).setCell ⟨gr, 5, none⟩ (.int .u32 0)).setCell ⟨gr, 6, none⟩ (.int .u32 0))) ?hg ?ho ?hn ?hr ?_; (case ho => rfl); (case hg => rfl); (case hn => rfl); (case hr => first | (go_simp; done) | (go_simp; rfl)); intro W13 hw; have BR_ := (by rw [hw]; exact bp7_ BR : W13.heap[gr]? = some (.cells vA0 24 (0, 0))); have HB_ := (by rw [hw]; exact (below_set (below_set (below_set (below_set (below_set (below_set (below_set HB wgr) wgr) wgr) wgr) wgr) wgr) wgr) : Below w.heap.size w W13); clear hw HB BR; have HB := HB_; have BR := BR_; clear HB_ BR_; (try clear kr0_); (try clear zkr0_); (try clear kr1_); (try clear zkr1_); (try clear kr2_); (try clear zkr2_); (try clear kr3_); (try clear zkr3_); (try clear kr4_); (try clear zkr4_); (try clear kr5_); (try clear zkr5_); (try clear kr6_); (try clear zkr6_)))
      refine bodyPost_ret (results_ct rfl _ _ gr 24 vA0 (0, 0) _ rfl BR Tryd.underlying24 rfl (by kernel_rfl)) rfl ?_
      exact ⟨rfl, HB⟩
     rw [if_pos ⟨c1_, c2_⟩] at hres
     rw [c2_] at hx1 hx1'
     obtain ⟨ad1, e1A, hy⟩ := Kd.at_int hi1 0 (by decide) (by rw [c2_]; decide)
     subst e1A
     obtain ⟨u, hu⟩ : ∃ u, u = rd f.f1 0 := ⟨_, rfl⟩
     rw [← hu] at hy hres
     have hy : wr.cell? (ad1.add 0) = some (.int .u32 u) := hy
     have hy' : wr.cell? ad1 = some (.int .u32 u) := msg.add0 ad1 ▸ hy
     clear hi1 c1_ c2_ hu hV
     have hres2 : msg.res v 3 ft m1 m2 u m4 m5 m6 = (r1, r2, r3, r4, r5, r6, r7, r8) := hres
     clear hres
     go_wp2_with (first | (go_at_call 20; (with_reducible refine (msg_part.calls v 4 true _ (hG.below HB) AP.out).mono ?_); rintro e w9 ⟨rfl, hd_⟩; have hb_ := hd_.below; clear hd_; replace BM := blk_below BM hb_; replace BR := blk_below BR hb_; replace hVr := Kd.V_below hVr hb_; replace HB := HB.trans (hb_.mono HB.size); replace hx0 := pw_cell_below hb_ hx0; replace hx0' := pw_cell_below hb_ hx0'; replace hx1 := pw_cell_below hb_ hx1; replace hx1' := pw_cell_below hb_ hx1'; replace hy := pw_cell_below hb_ hy; replace hy' := pw_cell_below hb_ hy'; clear hb_; (try clear km0_); (try clear zkm0_); (try clear km1_); (try clear zkm1_); (try clear km2_); (try clear zkm2_); (try clear km3_); (try clear zkm3_); (try clear km4_); (try clear zkm4_); (try clear km5_); (try clear zkm5_); (try clear km6_); (try clear zkm6_); (try clear kr0_); (try clear zkr0_); (try clear kr1_); (try clear zkr1_); (try clear kr2_); (try clear zkr2_); (try clear kr3_); (try clear zkr3_); (try clear kr4_); (try clear zkr4_); (try clear kr5_); (try clear zkr5_); (try clear kr6_); (try clear zkr6_); have km0_ : w9.cell? ⟨gm, 0, none⟩ = some (.int .u32 v) := (blk_cell BM 0).trans rfl; have zkm0_ := blk_frozen BM 0; have km1_ : w9.cell? ⟨gm, 1, none⟩ = some (.int .u32 m1) := (blk_cell BM 1).trans rfl; have zkm1_ := blk_frozen BM 1; have km2_ : w9.cell? ⟨gm, 2, none⟩ = some (.int .u32 m2) := (blk_cell BM 2).trans rfl; have zkm2_ := blk_frozen BM 2; have km3_ : w9.cell? ⟨gm, 3, none⟩ = some (.int .u32 m3) := (blk_cell BM 3).trans rfl; have zkm3_ := blk_frozen BM 3; have km4_ : w9.cell? ⟨gm, 4, none⟩ = some (.int .u32 m4) := (blk_cell BM 4).trans rfl; have zkm4_ := blk_frozen BM 4; have km5_ : w9.cell? ⟨gm, 5, none⟩ = some (.int .u32 m5) := (blk_cell BM 5).trans rfl; have zkm5_ := blk_frozen BM 5; have km6_ : w9.cell? ⟨gm, 6, none⟩ = some (.int .u32 m6) := (blk_cell BM 6).trans rfl; have zkm6_ := blk_frozen BM 6; have kr0_ : w9.cell? ⟨gr, 0, none⟩ = some (.int .u32 0) := (blk_cell BR 0).trans rfl; have zkr0_ := blk_frozen BR 0; have kr1_ : w9.cell? ⟨gr, 1, none⟩ = some (.int .u32 0) := (blk_cell BR 1).trans rfl; have zkr1_ := blk_frozen BR 1; have kr2_ : w9.cell? ⟨gr, 2, none⟩ = some (.int .u32 0) := (blk_cell BR 2).trans rfl; have zkr2_ := blk_frozen BR 2; have kr3_ : w9.cell? ⟨gr, 3, none⟩ = some (.int .u32 0) := (blk_cell BR 3).trans rfl; have zkr3_ := blk_frozen BR 3; have kr4_ : w9.cell? ⟨gr, 4, none⟩ = some (.int .u32 0) := (blk_cell BR 4).trans rfl; have zkr4_ := blk_frozen BR 4; have kr5_ : w9.cell? ⟨gr, 5, none⟩ = some (.int .u32 0) := (blk_cell BR 5).trans rfl; have zkr5_ := blk_frozen BR 5; have kr6_ : w9.cell? ⟨gr, 6, none⟩ = some (.int .u32 0) := (blk_cell BR 6).trans rfl; have zkr6_ := blk_frozen BR 6) | ((with_reducible refine gate_store (t := 22) (p := 108) rfl ?_); refine store_event (t := 22) (p := 108) (v := ?vw4_) (w1 := w9.setCell ⟨gm, 3, none⟩ (.int .u32 u)) ?hg ?ho ?hn ?hr ?_; (case ho => rfl); (case hg => rfl); (case hn => rfl); (case hr => first | (go_simp; done) | (go_simp; rfl)); intro W14 hw; have BM_ := (by rw [hw]; exact blk_put (cs := #[.int .u32 v, .int .u32 m1, .int .u32 m2, .int .u32 m3, .int .u32 m4, .int .u32 m5, .int .u32 m6]) (cs' := #[.int .u32 v, .int .u32 m1, .int .u32 m2, .int .u32 u, .int .u32 m4, .int .u32 m5, .int .u32 m6]) BM 3 _ rfl : W14.heap[gm]? = some (.cells #[.int .u32 v, .int .u32 m1, .int .u32 m2, .int .u32 u, .int .u32 m4, .int .u32 m5, .int .u32 m6] 24 (0, 0))); have BR_ := (by rw [hw]; exact blk_far (p := ⟨gm, 3, none⟩) BR (Nat.ne_of_lt lrm) _ : W14.heap[gr]? = some (.cells vA0 24 (0, 0))); have hV_ := (by rw [hw]; exact Kd.V_far (p := ⟨gm, 3, none⟩) hVr (fun k hk => hk.1) _ : Kd.V k45 45 W14 0 (fun k => k ≠ gm ∧ k ≠ gr) (.slice Ar ft.length cr) ft); have HB_ := (by rw [hw]; exact below_set (g := gm) (j := 3) (v := .int .u32 u) HB (Nat.le_trans wgr (Nat.le_of_lt lrm)) : Below w.heap.size w W14); clear hw BM BR hVr HB; have BM := BM_; have BR := BR_; have hV := hV_; have HB := HB_; clear BM_ BR_ hV_ HB_; (try clear km0_); (try clear zkm0_); (try clear km1_); (try clear zkm1_); (try clear km2_); (try clear zkm2_); (try clear km3_); (try clear zkm3_); (try clear km4_); (try clear zkm4_); (try clear km5_); (try clear zkm5_); (try clear km6_); (try clear zkm6_); (try clear kr0_); (try clear zkr0_); (try clear kr1_); (try clear zkr1_); (try clear kr2_); (try clear zkr2_); (try clear kr3_); (try clear zkr3_); (try clear kr4_); (try clear zkr4_); (try clear kr5_); (try clear zkr5_); (try clear kr6_); (try clear zkr6_)))
     go_roundg k2
     case measure => exact Nat.lt_succ_self _
     case rel => exact ⟨5, ft, Ar, cr, m1, m2, u, m4, m5, m6, rfl, (by first | rfl | (simp; done)), ⟨by omega⟩, ⟨by omega⟩, ⟨hres2⟩, ⟨hV⟩, ⟨BM⟩, ⟨BR⟩, ⟨HB⟩⟩
   ·
    have hI := msg.idx5 gm
    clear hi c_
    obtain ⟨b, hb⟩ : ∃ b, b = msg.hasB v 5 := ⟨_, rfl⟩
    have AP := Aside0.mk (show msg_part.f v 5 = some b by unfold msg_part.f; rw [if_pos ⟨hk, by decide⟩, hb])
    replace hres := (msg.res_succ v 2 fs m1 m2 m3 m4 m5 m6).symm.trans hres
    cases b with
    | false =>
     rw [if_neg (fun q_ => by have h2 := q_.2; rw [show msg.hasB v ((7 - 2 : Nat) : Int) = false from hb.symm] at h2; cases h2)] at hres
     clear hb
     go_wp2_with (first | (go_at_call 20; (with_reducible refine (msg_part.calls v 5 false _ (hG.below HB) AP.out).mono ?_); rintro e w9 ⟨rfl, hd_⟩; have hb_ := hd_.below; clear hd_; replace BM := blk_below BM hb_; replace BR := blk_below BR hb_; replace hV := Kd.V_below hV hb_; replace HB := HB.trans (hb_.mono HB.size); clear hb_; (try clear km0_); (try clear zkm0_); (try clear km1_); (try clear zkm1_); (try clear km2_); (try clear zkm2_); (try clear km3_); (try clear zkm3_); (try clear km4_); (try clear zkm4_); (try clear km5_); (try clear zkm5_); (try clear km6_); (try clear zkm6_); (try clear kr0_); (try clear zkr0_); (try clear kr1_); (try clear zkr1_); (try clear kr2_); (try clear zkr2_); (try clear kr3_); (try clear zkr3_); (try clear kr4_); (try clear zkr4_); (try clear kr5_); (try clear zkr5_); (try clear kr6_); (try clear zkr6_); have km0_ : w9.cell? ⟨gm, 0, none⟩ = some (.int .u32 v) := (blk_cell BM 0).trans rfl; have zkm0_ := blk_frozen BM 0; have km1_ : w9.cell? ⟨gm, 1, none⟩ = some (.int .u32 m1) := (blk_cell BM 1).trans rfl; have zkm1_ := blk_frozen BM 1; have km2_ : w9.cell? ⟨gm, 2, none⟩ = some (.int .u32 m2) := (blk_cell BM 2).trans rfl; have zkm2_ := blk_frozen BM 2; have km3_ : w9.cell? ⟨gm, 3, none⟩ = some (.int .u32 m3) := (blk_cell BM 3).trans rfl; have zkm3_ := blk_frozen BM 3; have km4_ : w9.cell? ⟨gm, 4, none⟩ = some (.int .u32 m4) := (blk_cell BM 4).trans rfl; have zkm4_ := blk_frozen BM 4; have km5_ : w9.cell? ⟨gm, 5, none⟩ = some (.int .u32 m5) := (blk_cell BM 5).trans rfl; have zkm5_ := blk_frozen BM 5; have km6_ : w9.cell? ⟨gm, 6, none⟩ = some (.int .u32 m6) := (blk_cell BM 6).trans rfl; have zkm6_ := blk_frozen BM 6; have kr0_ : w9.cell? ⟨gr, 0, none⟩ = some (.int .u32 0) := (blk_cell BR 0).trans rfl; have zkr0_ := blk_frozen BR 0; have kr1_ : w9.cell? ⟨gr, 1, none⟩ = some (.int .u32 0) := (blk_cell BR 1).trans rfl; have zkr1_ := blk_frozen BR 1; have kr2_ : w9.cell? ⟨gr, 2, none⟩ = some (.int .u32 0) := (blk_cell BR 2).trans rfl; have zkr2_ := blk_frozen BR 2; have kr3_ : w9.cell? ⟨gr, 3, none⟩ = some (.int .u32 0) := (blk_cell BR 3).trans rfl; have zkr3_ := blk_frozen BR 3; have kr4_ : w9.cell? ⟨gr, 4, none⟩ = some (.int .u32 0) := (blk_cell BR 4).trans rfl; have zkr4_ := blk_frozen BR 4; have kr5_ : w9.cell? ⟨gr, 5, none⟩ = some (.int .u32 0) := (blk_cell BR 5).trans rfl; have zkr5_ := blk_frozen BR 5; have kr6_ : w9.cell? ⟨gr, 6, none⟩ = some (.int .u32 0) := (blk_cell BR 6).trans rfl; have zkr6_ := blk_frozen BR 6))
     go_roundg k2
     case measure => exact Nat.lt_succ_self _
     case rel => exact ⟨6, fs, A, c, m1, m2, m3, m4, m5, m6, rfl, (by first | rfl | (simp; done)), ⟨by omega⟩, ⟨by omega⟩, ⟨hres⟩, ⟨hV⟩, ⟨BM⟩, ⟨BR⟩, ⟨HB⟩⟩
    | true =>
     rw [if_pos ⟨by decide, hb.symm⟩] at hres
     clear hb
     cases fs with
     | nil =>
      simp only [Prod.mk.injEq] at hres
      obtain ⟨rfl, rfl, rfl, rfl, rfl, rfl, rfl, rfl⟩ := hres
      simp only [List.length_nil]
      simp only [List.length_nil] at hV
      go_wp2_with (first | (go_at_call 20; (with_reducible refine (msg_part.calls v 5 true _ (hG.below HB) AP.out).mono ?_); rintro e w9 ⟨rfl, hd_⟩; have hb_ := hd_.below; clear hd_; replace BM := blk_below BM hb_; replace BR := blk_below BR hb_; replace hV := Kd.V_below hV hb_; replace HB := HB.trans (hb_.mono HB.size); clear hb_; (try clear km0_); (try clear zkm0_); (try clear km1_); (try clear zkm1_); (try clear km2_); (try clear zkm2_); (try clear km3_); (try clear zkm3_); (try clear km4_); (try clear zkm4_); (try clear km5_); (try clear zkm5_); (try clear km6_); (try clear zkm6_); (try clear kr0_); (try clear zkr0_); (try clear kr1_); (try clear zkr1_); (try clear kr2_); (try clear zkr2_); (try clear kr3_); (try clear zkr3_); (try clear kr4_); (try clear zkr4_); (try clear kr5_); (try clear zkr5_); (try clear kr6_); (try clear zkr6_); have km0_ : w9.cell? ⟨gm, 0, none⟩ = some (.int .u32 v) := (blk_cell BM 0).trans rfl; have zkm0_ := blk_frozen BM 0; have km1_ : w9.cell? ⟨gm, 1, none⟩ = some (.int .u32 m1) := (blk_cell BM 1).trans rfl; have zkm1_ := blk_frozen BM 1; have km2_ : w9.cell? ⟨gm, 2, none⟩ = some (.int .u32 m2) := (blk_cell BM 2).trans rfl; have zkm2_ := blk_frozen BM 2; have km3_ : w9.cell? ⟨gm, 3, none⟩ = some (.int .u32 m3) := (blk_cell BM 3).trans rfl; have zkm3_ := blk_frozen BM 3; have km4_ : w9.cell? ⟨gm, 4, none⟩ = some (.int .u32 m4) := (blk_cell BM 4).trans rfl; have zkm4_ := blk_frozen BM 4; have km5_ : w9.cell? ⟨gm, 5, none⟩ = some (.int .u32 m5) := (blk_cell BM 5).trans rfl; have zkm5_ := blk_frozen BM 5; have km6_ : w9.cell? ⟨gm, 6, none⟩ = some (.int .u32 m6) := (blk_cell BM 6).trans rfl; have zkm6_ := blk_frozen BM 6; have kr0_ : w9.cell? ⟨gr, 0, none⟩ = some (.int .u32 0) := (blk_cell BR 0).trans rfl; have zkr0_ := blk_frozen BR 0; have kr1_ : w9.cell? ⟨gr, 1, none⟩ = some (.int .u32 0) := (blk_cell BR 1).trans rfl; have zkr1_ := blk_frozen BR 1; have kr2_ : w9.cell? ⟨gr, 2, none⟩ = some (.int .u32 0) := (blk_cell BR 2).trans rfl; have zkr2_ := blk_frozen BR 2; have kr3_ : w9.cell? ⟨gr, 3, none⟩ = some (.int .u32 0) := (blk_cell BR 3).trans rfl; have zkr3_ := blk_frozen BR 3; have kr4_ : w9.cell? ⟨gr, 4, none⟩ = some (.int .u32 0) := (blk_cell BR 4).trans rfl; have zkr4_ := blk_frozen BR 4; have kr5_ : w9.cell? ⟨gr, 5, none⟩ = some (.int .u32 0) := (blk_cell BR 5).trans rfl; have zkr5_ := blk_frozen BR 5; have kr6_ : w9.cell? ⟨gr, 6, none⟩ = some (.int .u32 0) := (blk_cell BR 6).trans rfl; have zkr6_ := blk_frozen BR 6) | ((with_reducible refine gate_store (t := 24) (p := 2) rfl ?_); refine store_event (t := 24) (p := 2) (v := ?vog5_) (w1 := (((((((w9.setCell ⟨gr, 0, none⟩ (.int .u32 0)).setCell ⟨gr, 1, none⟩ (.int .u32 0)).setCell ⟨gr, 2, none⟩ (.int .u32 0)).setCell ⟨gr, 3, none⟩ (.int .u32 0)).setCell ⟨gr, 4, none⟩ (.int .u32 0)).setCell ⟨gr, 5, none⟩ (.int .u32 0)).setCell ⟨gr, 6, none⟩ (.int .u32 0))) ?hg ?ho ?hn ?hr ?_; (case ho => rfl); (case hg => rfl); (case hn => rfl); (case hr => first | (go_simp; done) | (go_simp; rfl)); intro W11 hw; have BR_ := (by rw [hw]; exact bp7_ BR : W11.heap[gr]? = some (.cells vA0 24 (0, 0))); have HB_ := (by rw [hw]; exact (below_set (below_set (below_set (below_set (below_set (below_set (below_set HB wgr) wgr) wgr) wgr) wgr) wgr) wgr) : Below w.heap.size w W11); clear hw HB BR; have HB := HB_; have BR := BR_; clear HB_ BR_; (try clear kr0_); (try clear zkr0_); (try clear kr1_); (try clear zkr1_); (try clear kr2_); (try clear zkr2_); (try clear kr3_); (try clear zkr3_); (try clear kr4_); (try clear zkr4_); (try clear kr5_); (try clear zkr5_); (try clear kr6_); (try clear zkr6_)))
      refine bodyPost_ret (results_ct rfl _ _ gr 24 vA0 (0, 0) _ rfl BR Tryd.underlying24 rfl (by kernel_rfl)) rfl ?_
      exact ⟨rfl, HB⟩
     | cons f ft =>
     dsimp only at hres
     obtain ⟨ad, A1, c1, eA, hx0, hx0', hx1, hx1', hi1⟩ := msg.first hV
     subst eA
     obtain ⟨Ar, hVr, HCut⟩ := msg.rest hV
     obtain ⟨cr, hcr⟩ : ∃ cr, cr = c - 1 := ⟨_, rfl⟩
     rw [← hcr] at hVr HCut
     clear hcr
     obtain ⟨N, hN⟩ : ∃ N, N = (f :: ft).length := ⟨_, rfl⟩
     rw [← hN] at hV HCut ⊢
     have hNp : 1 ≤ N := by rw [hN, List.length_cons]; omega
     have n0 : ((N : Int) == 0) = false := beq_eq_false_iff_ne.mpr (by omega)
     have n1 : (N == 0) = false := beq_eq_false_iff_ne.mpr (by omega)
     have n2 : decide (N = 0) = false := decide_eq_false (by omega)
     have n3 : (0 < N) = True := eq_true (by omega)
     have n4 : ((0 : Int) < (N : Int)) = True := eq_true (by omega)
     clear hN hNp
     by_cases c1_ : f.f0 = 5
     rotate_left
     ·
      rw [if_neg (fun q_ => c1_ q_.1)] at hres
      simp only [Prod.mk.injEq] at hres
      obtain ⟨rfl, rfl, rfl, rfl, rfl, rfl, rfl, rfl⟩ := hres
      have e1 : (f.f0 != 5) = true := bne_iff_ne.mpr c1_
      have e2 : (f.f0 == 5) = false := beq_eq_false_iff_ne.mpr c1_
      clear hVr HCut hi1
      go_wp2_with (first | (go_at_call 20; (with_reducible refine (msg_part.calls v 5 true _ (hG.below HB) AP.out).mono ?_); rintro e w9 ⟨rfl, hd_⟩; have hb_ := hd_.below; clear hd_; replace BM := blk_below BM hb_; replace BR := blk_below BR hb_; replace hV := Kd.V_below hV hb_; replace HB := HB.trans (hb_.mono HB.size); replace hx0 := pw_cell_below hb_ hx0; replace hx0' := pw_cell_below hb_ hx0'; replace hx1 := pw_cell_below hb_ hx1; replace hx1' := pw_cell_below hb_ hx1'; clear hb_; (try clear km0_); (try clear zkm0_); (try clear km1_); (try clear zkm1_); (try clear km2_); (try clear zkm2_); (try clear km3_); (try clear zkm3_); (try clear km4_); (try clear zkm4_); (try clear km5_); (try clear zkm5_); (try clear km6_); (try clear zkm6_); (try clear kr0_); (try clear zkr0_); (try clear kr1_); (try clear zkr1_); (try clear kr2_); (try clear zkr2_); (try clear kr3_); (try clear zkr3_); (try clear kr4_); (try clear zkr4_); (try clear kr5_); (try clear zkr5_); (try clear kr6_); (try clear zkr6_); have km0_ : w9.cell? ⟨gm, 0, none⟩ = some (.int .u32 v) := (blk_cell BM 0).trans rfl; have zkm0_ := blk_frozen BM 0; have km1_ : w9.cell? ⟨gm, 1, none⟩ = some (.int .u32 m1) := (blk_cell BM 1).trans rfl; have zkm1_ := blk_frozen BM 1; have km2_ : w9.cell? ⟨gm, 2, none⟩ = some (.int .u32 m2) := (blk_cell BM 2).trans rfl; have zkm2_ := blk_frozen BM 2; have km3_ : w9.cell? ⟨gm, 3, none⟩ = some (.int .u32 m3) := (blk_cell BM 3).trans rfl; have zkm3_ := blk_frozen BM 3; have km4_ : w9.cell? ⟨gm, 4, none⟩ = some (.int .u32 m4) := (blk_cell BM 4).trans rfl; have zkm4_ := blk_frozen BM 4; have km5_ : w9.cell? ⟨gm, 5, none⟩ = some (.int .u32 m5) := (blk_cell BM 5).trans rfl; have zkm5_ := blk_frozen BM 5; have km6_ : w9.cell? ⟨gm, 6, none⟩ = some (.int .u32 m6) := (blk_cell BM 6).trans rfl; have zkm6_ := blk_frozen BM 6; have kr0_ : w9.cell? ⟨gr, 0, none⟩ = some (.int .u32 0) := (blk_cell BR 0).trans rfl; have zkr0_ := blk_frozen BR 0; have kr1_ : w9.cell? ⟨gr, 1, none⟩ = some (.int .u32 0) := (blk_cell BR 1).trans rfl; have zkr1_ := blk_frozen BR 1; have kr2_ : w9.cell? ⟨gr, 2, none⟩ = some (.int .u32 0) := (blk_cell BR 2).trans rfl; have zkr2_ := blk_frozen BR 2; have kr3_ : w9.cell? ⟨gr, 3, none⟩ = some (.int .u32 0) := (blk_cell BR 3).trans rfl; have zkr3_ := blk_frozen BR 3; have kr4_ : w9.cell? ⟨gr, 4, none⟩ = some (.int .u32 0) := (blk_cell BR 4).trans rfl; have zkr4_ := blk_frozen BR 4; have kr5_ : w9.cell? ⟨gr, 5, none⟩ = some (.int .u32 0) := (blk_cell BR 5).trans rfl; have zkr5_ := blk_frozen BR 5; have kr6_ : w9.cell? ⟨gr, 6, none⟩ = some (.int .u32 0) := (blk_cell BR 6).trans rfl; have zkr6_ := blk_frozen BR 6) | ((with_reducible refine gate_store (t := 24) (p := 2) rfl ?_); refine store_event (t := 24) (p := 2) (v := ?voh5_) (w1 := (((((((w9.setCell ⟨gr, 0, none⟩ (.int .u32 0)).setCell ⟨gr, 1, none⟩ (.int .u32 0)).setCell ⟨gr, 2, none⟩ (.int .u32 0)).setCell ⟨gr, 3, none⟩ (.int .u32 0)).setCell ⟨gr, 4, none⟩ (.int .u32 0)).setCell ⟨gr, 5, none⟩ (.int .u32 0)).setCell ⟨gr, 6, none⟩ (.int .u32 0))) ?hg ?ho ?hn ?hr ?_; (case ho => rfl); (case hg => rfl); (case hn => rfl); (case hr => first | (go_simp; done) | (go_simp; rfl)); intro W12 hw; have BR_ := (by rw [hw]; exact bp7_ BR : W12.heap[gr]? = some (.cells vA0 24 (0, 0))); have HB_ := (by rw [hw]; exact (below_set (below_set (below_set (below_set (below_set (below_set (below_set HB wgr) wgr) wgr) wgr) wgr) wgr) wgr) : Below w.heap.size w W12); clear hw HB BR; have HB := HB_; have BR := BR_; clear HB_ BR_; (try clear kr0_); (try clear zkr0_); (try clear kr1_); (try clear zkr1_); (try clear kr2_); (try clear zkr2_); (try clear kr3_); (try clear zkr3_); (try clear kr4_); (try clear zkr4_); (try clear kr5_); (try clear zkr5_); (try clear kr6_); (try clear zkr6_)))
      refine bodyPost_ret (results_ct rfl _ _ gr 24 vA0 (0, 0) _ rfl BR Tryd.underlying24 rfl (by kernel_rfl)) rfl ?_
      exact ⟨rfl, HB⟩
     rw [c1_] at hx0 hx0'
     by_cases c2_ : f.f1.length = 1
     rotate_left
     ·
      rw [if_neg (fun q_ => c2_ q_.2)] at hres
      simp only [Prod.mk.injEq] at hres
      obtain ⟨rfl, rfl, rfl, rfl, rfl, rfl, rfl, rfl⟩ := hres
      have e1 : ((f.f1.length : Int) != 1) = true := bne_iff_ne.mpr (by omega)
      have e2 : (f.f1.length == 1) = false := beq_eq_false_iff_ne.mpr c2_
      have e3 : ((f.f1.length : Int) == 1) = false := beq_eq_false_iff_ne.mpr (by omega)
      have e4 : (f.f1.length != 1) = true := bne_iff_ne.mpr c2_
      clear hVr HCut hi1
      go_wp2_with (first | (go_at_call 20; (with_reducible refine (msg_part.calls v 5 true _ (hG.below HB) AP.out).mono ?_); rintro e w9 ⟨rfl, hd_⟩; have hb_ := hd_.below; clear hd_; replace BM := blk_below BM hb_; replace BR := blk_below BR hb_; replace hV := Kd.V_below hV hb_; replace HB := HB.trans (hb_.mono HB.size); replace hx0 := pw_cell_below hb_ hx0; replace hx0' := pw_cell_below hb_ hx0'; replace hx1 := pw_cell_below hb_ hx1; replace hx1' := pw_cell_below hb_ hx1'; clear hb_; (try clear km0_); (try clear zkm0_); (try clear km1_); (try clear zkm1_); (try clear km2_); (try clear zkm2_); (try clear km3_); (try clear zkm3_); (try clear km4_); (try clear zkm4_); (try clear km5_); (try clear zkm5_); (try clear km6_); (try clear zkm6_); (try clear kr0_); (try clear zkr0_); (try clear kr1_); (try clear zkr1_); (try clear kr2_); (try clear zkr2_); (try clear kr3_); (try clear zkr3_); (try clear kr4_); (try clear zkr4_); (try clear kr5_); (try clear zkr5_); (try clear kr6_); (try clear zkr6_); have km0_ : w9.cell? ⟨gm, 0, none⟩ = some (.int .u32 v) := (blk_cell BM 0).trans rfl; have zkm0_ := blk_frozen BM 0; have km1_ : w9.cell? ⟨gm, 1, none⟩ = some (.int .u32 m1) := (blk_cell BM 1).trans rfl; have zkm1_ := blk_frozen BM 1; have km2_ : w9.cell? ⟨gm, 2, none⟩ = some (.int .u32 m2) := (blk_cell BM 2).trans rfl; have zkm2_ := blk_frozen BM 2; have km3_ : w9.cell? ⟨gm, 3, none⟩ = some (.int .u32 m3) := (blk_cell BM 3).trans rfl; have zkm3_ := blk_frozen BM 3; have km4_ : w9.cell? ⟨gm, 4, none⟩ = some (.int .u32 m4) := (blk_cell BM 4).trans rfl; have zkm4_ := blk_frozen BM 4; have km5_ : w9.cell? ⟨gm, 5, none⟩ = some (.int .u32 m5) := (blk_cell BM 5).trans rfl; have zkm5_ := blk_frozen BM 5; have km6_ : w9.cell? ⟨gm, 6, none⟩ = some (.int .u32 m6) := (blk_cell BM 6).trans rfl; have zkm6_ := blk_frozen BM 6; have kr0_ : w9.cell? ⟨gr, 0, none⟩ = some (.int .u32 0) := (blk_cell BR 0).trans rfl; have zkr0_ := blk_frozen BR 0; have kr1_ : w9.cell? ⟨gr, 1, none⟩ = some (.int .u32 0) := (blk_cell BR 1).trans rfl; have zkr1_ := blk_frozen BR 1; have kr2_ : w9.cell? ⟨gr, 2, none⟩ = some (.int .u32 0) := (blk_cell BR 2).trans rfl; have zkr2_ := blk_frozen BR 2; have kr3_ : w9.cell? ⟨gr, 3, none⟩ = some (.int .u32 0) := (blk_cell BR 3).trans rfl; have zkr3_ := blk_frozen BR 3; have kr4_ : w9.cell? ⟨gr, 4, none⟩ = some (.int .u32 0) := (blk_cell BR 4).trans rfl; have zkr4_ := blk_frozen BR 4; have kr5_ : w9.cell? ⟨gr, 5, none⟩ = some (.int .u32 0) := (blk_cell BR 5).trans rfl; have zkr5_ := blk_frozen BR 5; have kr6_ : w9.cell? ⟨gr, 6, none⟩ = some (.int .u32 0) := (blk_cell BR 6).trans rfl; have zkr6_ := blk_frozen BR 6) | ((with_reducible refine gate_store (t := 24) (p := 2) rfl ?_); refine store_event (t := 24) (p := 2) (v := ?voi5_) (w1 := (((((((w9.setCell ⟨gr, 0, none⟩ (.int .u32 0)).setCell ⟨gr, 1, none⟩ (.int .u32 0)).setCell ⟨gr, 2, none⟩ (.int .u32 0)).setCell ⟨gr, 3, none⟩ (.int .u32 0)).setCell ⟨gr, 4, none⟩ (.int .u32 0)).setCell ⟨gr, 5, none⟩ (.int .u32 0)).setCell ⟨gr, 6, none⟩ (.int .u32 0))) ?hg ?ho ?hn ?hr ?_; (case ho => rfl); (case hg => rfl); (case hn => rfl); (case hr => first | (go_simp; done) | (go_simp; rfl)); intro W13 hw; have BR_ := (by rw [hw]; exact bp7_ BR : W13.heap[gr]? = some (.cells vA0 24 (0, 0))); have HB_ := (by rw [hw]; exact (below_set (below_set (below_set (below_set (below_set (below_set (below_set HB wgr) wgr) wgr) wgr) wgr) wgr) wgr) : Below w.heap.size w W13); clear hw HB BR; have HB := HB_; have BR := BR_; clear HB_ BR_; (try clear kr0_); (try clear zkr0_); (try clear kr1_); (try clear zkr1_); (try clear kr2_); (try clear zkr2_); (try clear kr3_); (try clear zkr3_); (try clear kr4_); (try clear zkr4_); (try clear kr5_); (try clear zkr5_); (try clear kr6_); (try clear zkr6_)))
      refine bodyPost_ret (results_ct rfl _ _ gr 24 vA0 (0, 0) _ rfl BR Tryd.underlying24 rfl (by kernel_rfl)) rfl ?_
      exact ⟨rfl, HB⟩
     rw [if_pos ⟨c1_, c2_⟩] at hres
     rw [c2_] at hx1 hx1'
     obtain ⟨ad1, e1A, hy⟩ := Kd.at_int hi1 0 (by decide) (by rw [c2_]; decide)
     subst e1A
     obtain ⟨u, hu⟩ : ∃ u, u = rd f.f1 0 := ⟨_, rfl⟩
     rw [← hu] at hy hres
     have hy : wr.cell? (ad1.add 0) = some (.int .u32 u) := hy
     have hy' : wr.cell? ad1 = some (.int .u32 u) := msg.add0 ad1 ▸ hy
     clear hi1 c1_ c2_ hu hV
     have hres2 : msg.res v 2 ft m1 m2 m3 u m5 m6 = (r1, r2, r3, r4, r5, r6, r7, r8) := hres
     clear hres
     go_wp2_with (first | (go_at_call 20; (with_reducible refine (msg_part.calls v 5 true _ (hG.below HB) AP.out).mono ?_); rintro e w9 ⟨rfl, hd_⟩; have hb_ := hd_.below; clear hd_; replace BM := blk_below BM hb_; replace BR := blk_below BR hb_; replace hVr := Kd.V_below hVr hb_; replace HB := HB.trans (hb_.mono HB.size); replace hx0 := pw_cell_below hb_ hx0; replace hx0' := pw_cell_below hb_ hx0'; replace hx1 := pw_cell_below hb_ hx1; replace hx1' := pw_cell_below hb_ hx1'; replace hy := pw_cell_below hb_ hy; replace hy' := pw_cell_below hb_ hy'; clear hb_; (try clear km0_); (try clear zkm0_); (try clear km1_); (try clear zkm1_); (try clear km2_); (try clear zkm2_); (try clear km3_); (try clear zkm3_); (try clear km4_); (try clear zkm4_); (try clear km5_); (try clear zkm5_); (try clear km6_); (try clear zkm6_); (try clear kr0_); (try clear zkr0_); (try clear kr1_); (try clear zkr1_); (try clear kr2_); (try clear zkr2_); (try clear kr3_); (try clear zkr3_); (try clear kr4_); (try clear zkr4_); (try clear kr5_); (try clear zkr5_); (try clear kr6_); (try clear zkr6_); have km0_ : w9.cell? ⟨gm, 0, none⟩ = some (.int .u32 v) := (blk_cell BM 0).trans rfl; have zkm0_ := blk_frozen BM 0; have km1_ : w9.cell? ⟨gm, 1, none⟩ = some (.int .u32 m1) := (blk_cell BM 1).trans rfl; have zkm1_ := blk_frozen BM 1; have km2_ : w9.cell? ⟨gm, 2, none⟩ = some (.int .u32 m2) := (blk_cell BM 2).trans rfl; have zkm2_ := blk_frozen BM 2; have km3_ : w9.cell? ⟨gm, 3, none⟩ = some (.int .u32 m3) := (blk_cell BM 3).trans rfl; have zkm3_ := blk_frozen BM 3; have km4_ : w9.cell? ⟨gm, 4, none⟩ = some (.int .u32 m4) := (blk_cell BM 4).trans rfl; have zkm4_ := blk_frozen BM 4; have km5_ : w9.cell? ⟨gm, 5, none⟩ = some (.int .u32 m5) := (blk_cell BM 5).trans rfl; have zkm5_ := blk_frozen BM 5; have km6_ : w9.cell? ⟨gm, 6, none⟩ = some (.int .u32 m6) := (blk_cell BM 6).trans rfl; have zkm6_ := blk_frozen BM 6; have kr0_ : w9.cell? ⟨gr, 0, none⟩ = some (.int .u32 0) := (blk_cell BR 0).trans rfl; have zkr0_ := blk_frozen BR 0; have kr1_ : w9.cell? ⟨gr, 1, none⟩ = some (.int .u32 0) := (blk_cell BR 1).trans rfl; have zkr1_ := blk_frozen BR 1; have kr2_ : w9.cell? ⟨gr, 2, none⟩ = some (.int .u32 0) := (blk_cell BR 2).trans rfl; have zkr2_ := blk_frozen BR 2; have kr3_ : w9.cell? ⟨gr, 3, none⟩ = some (.int .u32 0) := (blk_cell BR 3).trans rfl; have zkr3_ := blk_frozen BR 3; have kr4_ : w9.cell? ⟨gr, 4, none⟩ = some (.int .u32 0) := (blk_cell BR 4).trans rfl; have zkr4_ := blk_frozen BR 4; have kr5_ : w9.cell? ⟨gr, 5, none⟩ = some (.int .u32 0) := (blk_cell BR 5).trans rfl; have zkr5_ := blk_frozen BR 5; have kr6_ : w9.cell? ⟨gr, 6, none⟩ = some (.int .u32 0) := (blk_cell BR 6).trans rfl; have zkr6_ := blk_frozen BR 6) | ((with_reducible refine gate_store (t := 22) (p := 108) rfl ?_); refine store_event (t := 22) (p := 108) (v := ?vw5_) (w1 := w9.setCell ⟨gm, 4, none⟩ (.int .u32 u)) ?hg ?ho ?hn ?hr ?_; (case ho => rfl); (case hg => rfl); (case hn => rfl); (case hr => first | (go_simp; done) | (go_simp; rfl)); intro W14 hw; have BM_ := (by rw [hw]; exact blk_put (cs := #[.int .u32 v, .int .u32 m1, .int .u32 m2, .int .u32 m3, .int .u32 m4, .int .u32 m5, .int .u32 m6]) (cs' := #[.int .u32 v, .int .u32 m1, .int .u32 m2, .int .u32 m3, .int .u32 u, .int .u32 m5, .int .u32 m6]) BM 4 _ rfl : W14.heap[gm]? = some (.cells #[.int .u32 v, .int .u32 m1, .int .u32 m2, .int .u32 m3, .int .u32 u, .int .u32 m5, .int .u32 m6] 24 (0, 0))); have BR_ := (by rw [hw]; exact blk_far (p := ⟨gm, 4, none⟩) BR (Nat.ne_of_lt lrm) _ : W14.heap[gr]? = some (.cells vA0 24 (0, 0))); have hV_ := (by rw [hw]; exact Kd.V_far (p := ⟨gm, 4, none⟩) hVr (fun k hk => hk.1) _ : Kd.V k45 45 W14 0 (fun k => k ≠ gm ∧ k ≠ gr) (.slice Ar ft.length cr) ft); have HB_ := (by rw [hw]; exact below_set (g := gm) (j := 4) (v := .int .u32 u) HB (Nat.le_trans wgr (Nat.le_of_lt lrm)) : Below w.heap.size w W14); clear hw BM BR hVr HB; have BM := BM_; have BR := BR_; have hV := hV_; have HB := HB_; clear BM_ BR_ hV_ HB_; (try clear km0_); (try clear zkm0_); (try clear km1_); (try clear zkm1_); (try clear km2_); (try clear zkm2_); (try clear km3_); (try clear zkm3_); (try clear km4_); (try clear zkm4_); (try clear km5_); (try clear zkm5_); (try clear km6_); (try clear zkm6_); (try clear kr0_); (try clear zkr0_); (try clear kr1_); (try clear zkr1_); (try clear kr2_); (try clear zkr2_); (try clear kr3_); (try clear zkr3_); (try clear kr4_); (try clear zkr4_); (try clear kr5_); (try clear zkr5_); (try clear kr6_); (try clear zkr6_)))
     go_roundg k2
     case measure => exact Nat.lt_succ_self _
     case rel => exact ⟨6, ft, Ar, cr, m1, m2, m3, u, m5, m6, rfl, (by first | rfl | (simp; done)), ⟨by omega⟩, ⟨by omega⟩, ⟨hres2⟩, ⟨hV⟩, ⟨BM⟩, ⟨BR⟩, ⟨HB⟩⟩
   ·
    have hI := msg.idx6 gm
    clear hi c_
    obtain ⟨b, hb⟩ : ∃ b, b = msg.hasB v 6 := ⟨_, rfl⟩
    have AP := Aside0.mk (show msg_part.f v 6 = some b by unfold msg_part.f; rw [if_pos ⟨hk, by decide⟩, hb])
    replace hres := (msg.res_succ v 1 fs m1 m2 m3 m4 m5 m6).symm.trans hres
    cases b with
    | false =>
     rw [if_neg (fun q_ => by have h2 := q_.2; rw [show msg.hasB v ((7 - 1 : Nat) : Int) = false from hb.symm] at h2; cases h2)] at hres
     clear hb
     go_wp2_with (first | (go_at_call 20; (with_reducible refine (msg_part.calls v 6 false _ (hG.below HB) AP.out).mono ?_); rintro e w9 ⟨rfl, hd_⟩; have hb_ := hd_.below; clear hd_; replace BM := blk_below BM hb_; replace BR := blk_below BR hb_; replace hV := Kd.V_below hV hb_; replace HB := HB.trans (hb_.mono HB.size); clear hb_; (try clear km0_); (try clear zkm0_); (try clear km1_); (try clear zkm1_); (try clear km2_); (try clear zkm2_); (try clear km3_); (try clear zkm3_); (try clear km4_); (try clear zkm4_); (try clear km5_); (try clear zkm5_); (try clear km6_); (try clear zkm6_); (try clear kr0_); (try clear zkr0_); (try clear kr1_); (try clear zkr1_); (try clear kr2_); (try clear zkr2_); (try clear kr3_); (try clear zkr3_); (try clear kr4_); (try clear zkr4_); (try clear kr5_); (try clear zkr5_); (try clear kr6_); (try clear zkr6_); have km0_ : w9.cell? ⟨gm, 0, none⟩ = some (.int .u32 v) := (blk_cell BM 0).trans rfl; have zkm0_ := blk_frozen BM 0; have km1_ : w9.cell? ⟨gm, 1, none⟩ = some (.int .u32 m1) := (blk_cell BM 1).trans rfl; have zkm1_ := blk_frozen BM 1; have km2_ : w9.cell? ⟨gm, 2, none⟩ = some (.int .u32 m2) := (blk_cell BM 2).trans rfl; have zkm2_ := blk_frozen BM 2; have km3_ : w9.cell? ⟨gm, 3, none⟩ = some (.int .u32 m3) := (blk_cell BM 3).trans rfl; have zkm3_ := blk_frozen BM 3; have km4_ : w9.cell? ⟨gm, 4, none⟩ = some (.int .u32 m4) := (blk_cell BM 4).trans rfl; have zkm4_ := blk_frozen BM 4; have km5_ : w9.cell? ⟨gm, 5, none⟩ = some (.int .u32 m5) := (blk_cell BM 5).trans rfl; have zkm5_ := blk_frozen BM 5; have km6_ : w9.cell? ⟨gm, 6, none⟩ = some (.int .u32 m6) := (blk_cell BM 6).trans rfl; have zkm6_ := blk_frozen BM 6; have kr0_ : w9.cell? ⟨gr, 0, none⟩ = some (.int .u32 0) := (blk_cell BR 0).trans rfl; have zkr0_ := blk_frozen BR 0; have kr1_ : w9.cell? ⟨gr, 1, none⟩ = some (.int .u32 0) := (blk_cell BR 1).trans rfl; have zkr1_ := blk_frozen BR 1; have kr2_ : w9.cell? ⟨gr, 2, none⟩ = some (.int .u32 0) := (blk_cell BR 2).trans rfl; have zkr2_ := blk_frozen BR 2; have kr3_ : w9.cell? ⟨gr, 3, none⟩ = some (.int .u32 0) := (blk_cell BR 3).trans rfl; have zkr3_ := blk_frozen BR 3; have kr4_ : w9.cell? ⟨gr, 4, none⟩ = some (.int .u32 0) := (blk_cell BR 4).trans rfl; have zkr4_ := blk_frozen BR 4; have kr5_ : w9.cell? ⟨gr, 5, none⟩ = some (.int .u32 0) := (blk_cell BR 5).trans rfl; have zkr5_ := blk_frozen BR 5; have kr6_ : w9.cell? ⟨gr, 6, none⟩ = some (.int .u32 0) := (blk_cell BR 6).trans rfl; have zkr6_ := blk_frozen BR 6))
     go_roundg k2
     case measure => exact Nat.lt_succ_self _
     case rel => exact ⟨7, fs, A, c, m1, m2, m3, m4, m5, m6, rfl, (by first | rfl | (simp; done)), ⟨by omega⟩, ⟨by omega⟩, ⟨hres⟩, ⟨hV⟩, ⟨BM⟩, ⟨BR⟩, ⟨HB⟩⟩
    | true =>
     rw [if_pos ⟨by decide, hb.symm⟩] at hres
     clear hb
     cases fs with
     | nil =>
      simp only [Prod.mk.injEq] at hres
      obtain ⟨rfl, rfl, rfl, rfl, rfl, rfl, rfl, rfl⟩ := hres
      simp only [List.length_nil]
      simp only [List.length_nil] at hV
      go_wp2_with (first | (go_at_call 20; (with_reducible refine (msg_part.calls v 6 true _ (hG.below HB) AP.out).mono ?_); rintro e w9 ⟨rfl, hd_⟩; have hb_ := hd_.below; clear hd_; replace BM := blk_below BM hb_; replace BR := blk_below BR hb_; replace hV := Kd.V_below hV hb_; replace HB := HB.trans (hb_.mono HB.size); clear hb_; (try clear km0_); (try clear zkm0_); (try clear km1_); (try clear zkm1_); (try clear km2_); (try clear zkm2_); (try clear km3_); (try clear zkm3_); (try clear km4_); (try clear zkm4_); (try clear km5_); (try clear zkm5_); (try clear km6_); (try clear zkm6_); (try clear kr0_); (try clear zkr0_); (try clear kr1_); (try clear zkr1_); (try clear kr2_); (try clear zkr2_); (try clear kr3_); (try clear zkr3_); (try clear kr4_); (try clear zkr4_); (try clear kr5_); (try clear zkr5_); (try clear kr6_); (try clear zkr6_); have km0_ : w9.cell? ⟨gm, 0, none⟩ = some (.int .u32 v) := (blk_cell BM 0).trans rfl; have zkm0_ := blk_frozen BM 0; have km1_ : w9.cell? ⟨gm, 1, none⟩ = some (.int .u32 m1) := (blk_cell BM 1).trans rfl; have zkm1_ := blk_frozen BM 1; have km2_ : w9.cell? ⟨gm, 2, none⟩ = some (.int .u32 m2) := (blk_cell BM 2).trans rfl; have zkm2_ := blk_frozen BM 2; have km3_ : w9.cell? ⟨gm, 3, none⟩ = some (.int .u32 m3) := (blk_cell BM 3).trans rfl; have zkm3_ := blk_frozen BM 3; have km4_ : w9.cell? ⟨gm, 4, none⟩ = some (.int .u32 m4) := (blk_cell BM 4).trans rfl; have zkm4_ := blk_frozen BM 4; have km5_ : w9.cell? ⟨gm, 5, none⟩ = some (.int .u32 m5) := (blk_cell BM 5).trans rfl; have zkm5_ := blk_frozen BM 5; have km6_ : w9.cell? ⟨gm, 6, none⟩ = some (.int .u32 m6) := (blk_cell BM 6).trans rfl; have zkm6_ := blk_frozen BM 6; have kr0_ : w9.cell? ⟨gr, 0, none⟩ = some (.int .u32 0) := (blk_cell BR 0).trans rfl; have zkr0_ := blk_frozen BR 0; have kr1_ : w9.cell? ⟨gr, 1, none⟩ = some (.int .u32 0) := (blk_cell BR 1).trans rfl; have zkr1_ := blk_frozen BR 1; have kr2_ : w9.cell? ⟨gr, 2, none⟩ = some (.int .u32 0) := (blk_cell BR 2).trans rfl; have zkr2_ := blk_frozen BR 2; have kr3_ : w9.cell? ⟨gr, 3, none⟩ = some (.int .u32 0) := (blk_cell BR 3).trans rfl; have zkr3_ := blk_frozen BR 3; have kr4_ : w9.cell? ⟨gr, 4, none⟩ = some (.int .u32 0) := (blk_cell BR 4).trans rfl; have zkr4_ := blk_frozen BR 4; have kr5_ : w9.cell? ⟨gr, 5, none⟩ = some (.int .u32 0) := (blk_cell BR 5).trans rfl; have zkr5_ := blk_frozen BR 5; have kr6_ : w9.cell? ⟨gr, 6, none⟩ = some (.int .u32 0) := (blk_cell BR 6).trans rfl; have zkr6_ := blk_frozen BR 6) | ((with_reducible refine gate_store (t := 24) (p := 2) rfl ?_); refine store_event (t := 24) (p := 2) (v := ?vog6_) (w1 := (((((((w9.setCell ⟨gr, 0, none⟩ (.int .u32 0)).setCell ⟨gr, 1, none⟩ (.int .u32 0)).setCell ⟨gr, 2, none⟩ (.int .u32 0)).setCell ⟨gr, 3, none⟩ (.int .u32 0)).setCell ⟨gr, 4, none⟩ (.int .u32 0)).setCell ⟨gr, 5, none⟩ (.int .u32 0)).setCell ⟨gr, 6, none⟩ (.int .u32 0))) ?hg ?ho ?hn ?hr ?_; (case ho => rfl); (case hg => rfl); (case hn => rfl); (case hr => first | (go_simp; done) | (go_simp; rfl)); intro W11 hw; have BR_ := (by rw [hw]; exact bp7_ BR : W11.heap[gr]? = some (.cells vA0 24 (0, 0))); have HB_ := (by rw [hw]; exact (below_set (below_set (below_set (below_set (below_set (below_set (below_set HB wgr) wgr) wgr) wgr) wgr) wgr) wgr) : Below w.heap.size w W11); clear hw HB BR; have HB := HB_; have BR := BR_; clear HB_ BR_; (try clear kr0_); (try clear zkr0_); (try clear kr1_); (try clear zkr1_); (try clear kr2_); (try clear zkr2_); (try clear kr3_); (try clear zkr3_); (try clear kr4_); (try clear zkr4_); (try clear kr5_); (try clear zkr5_); (try clear kr6_); (try clear zkr6_)))
      refine bodyPost_ret (results_ct rfl _ _ gr 24 vA0 (0, 0) _ rfl BR Tryd.underlying24 rfl (by kernel_rfl)) rfl ?_
      exact ⟨rfl, HB⟩
     | cons f ft =>
     dsimp only at hres
     obtain ⟨ad, A1, c1, eA, hx0, hx0', hx1, hx1', hi1⟩ := msg.first hV
     subst eA
     obtain ⟨Ar, hVr, HCut⟩ := msg.rest hV
     obtain ⟨cr, hcr⟩ : ∃ cr, cr = c - 1 := ⟨_, rfl⟩
     rw [← hcr] at hVr HCut
     clear hcr
     obtain ⟨N, hN⟩ : ∃ N, N = (f :: ft).length := ⟨_, rfl⟩
     rw [← hN] at hV HCut ⊢
     have hNp : 1 ≤ N := by rw [hN, List.length_cons]; omega
     have n0 : ((N : Int) == 0) = false := beq_eq_false_iff_ne.mpr (by omega)
     have n1 : (N == 0) = false := beq_eq_false_iff_ne.mpr (by omega)
     have n2 : decide (N = 0) = false := decide_eq_false (by omega)
     have n3 : (0 < N) = True := eq_true (by omega)
     have n4 : ((0 : Int) < (N : Int)) = True := eq_true (by omega)
     clear hN hNp
     by_cases c1_ : f.f0 = 6
     rotate_left
     ·
      rw [if_neg (fun q_ => c1_ q_.1)] at hres
      simp only [Prod.mk.injEq] at hres
      obtain ⟨rfl, rfl, rfl, rfl, rfl, rfl, rfl, rfl⟩ := hres
      have e1 : (f.f0 != 6) = true := bne_iff_ne.mpr c1_
      have e2 : (f.f0 == 6) = false := beq_eq_false_iff_ne.mpr c1_
      clear hVr HCut hi1
      go_wp2_with (first | (go_at_call 20; (with_reducible refine (msg_part.calls v 6 true _ (hG.below HB) AP.out).mono ?_); rintro e w9 ⟨rfl, hd_⟩; have hb_ := hd_.below; clear hd_; replace BM := blk_below BM hb_; replace BR := blk_below BR hb_; replace hV := Kd.V_below hV hb_; replace HB := HB.trans (hb_.mono HB.size); replace hx0 := pw_cell_below hb_ hx0; replace hx0' := pw_cell_below hb_ hx0'; replace hx1 := pw_cell_below hb_ hx1; replace hx1' := pw_cell_below hb_ hx1'; clear hb_; (try clear km0_); (try clear zkm0_); (try clear km1_); (try clear zkm1_); (try clear km2_); (try clear zkm2_); (try clear km3_); (try clear zkm3_); (try clear km4_); (try clear zkm4_); (try clear km5_); (try clear zkm5_); (try clear km6_); (try clear zkm6_); (try clear kr0_); (try clear zkr0_); (try clear kr1_); (try clear zkr1_); (try clear kr2_); (try clear zkr2_); (try clear kr3_); (try clear zkr3_); (try clear kr4_); (try clear zkr4_); (try clear kr5_); (try clear zkr5_); (try clear kr6_); (try clear zkr6_); have km0_ : w9.cell? ⟨gm, 0, none⟩ = some (.int .u32 v) := (blk_cell BM 0).trans rfl; have zkm0_ := blk_frozen BM 0; have km1_ : w9.cell? ⟨gm, 1, none⟩ = some (.int .u32 m1) := (blk_cell BM 1).trans rfl; have zkm1_ := blk_frozen BM 1; have km2_ : w9.cell? ⟨gm, 2, none⟩ = some (.int .u32 m2) := (blk_cell BM 2).trans rfl; have zkm2_ := blk_frozen BM 2; have km3_ : w9.cell? ⟨gm, 3, none⟩ = some (.int .u32 m3) := (blk_cell BM 3).trans rfl; have zkm3_ := blk_frozen BM 3; have km4_ : w9.cell? ⟨gm, 4, none⟩ = some (.int .u32 m4) := (blk_cell BM 4).trans rfl; have zkm4_ := blk_frozen BM 4; have km5_ : w9.cell? ⟨gm, 5, none⟩ = some (.int .u32 m5) := (blk_cell BM 5).trans rfl; have zkm5_ := blk_frozen BM 5; have km6_ : w9.cell? ⟨gm, 6, none⟩ = some (.int .u32 m6) := (blk_cell BM 6).trans rfl; have zkm6_ := blk_frozen BM 6; have kr0_ : w9.cell? ⟨gr, 0, none⟩ = some (.int .u32 0) := (blk_cell BR 0).trans rfl; have zkr0_ := blk_frozen BR 0; have kr1_ : w9.cell? ⟨gr, 1, none⟩ = some (.int .u32 0) := (blk_cell BR 1).trans rfl; have zkr1_ := blk_frozen BR 1; have kr2_ : w9.cell? ⟨gr, 2, none⟩ = some (.int .u32 0) := (blk_cell BR 2).trans rfl; have zkr2_ := blk_frozen BR 2; have kr3_ : w9.cell? ⟨gr, 3, none⟩ = some (.int .u32 0) := (blk_cell BR 3).trans rfl; have zkr3_ := blk_frozen BR 3; have kr4_ : w9.cell? ⟨gr, 4, none⟩ = some (.int .u32 0) := (blk_cell BR 4).trans rfl; have zkr4_ := blk_frozen BR 4; have kr5_ : w9.cell? ⟨gr, 5, none⟩ = some (.int .u32 0) := (blk_cell BR 5).trans rfl; have zkr5_ := blk_frozen BR 5; have kr6_ : w9.cell? ⟨gr, 6, none⟩ = some (.int .u32 0) := (blk_cell BR 6).trans rfl; have zkr6_ := blk_frozen BR 6) | ((with_reducible refine gate_store (t := 24) (p := 2) rfl ?_); refine store_event (t := 24) (p := 2) (v := ?voh6_) (w1 := (((((((w9.setCell ⟨gr, 0, none⟩ (.int .u32 0)).setCell ⟨gr, 1, none⟩ (.int .u32 0)).setCell ⟨gr, 2, none⟩ (.int .u32 0)).setCell ⟨gr, 3, none⟩ (.int .u32 0)).setCell ⟨gr, 4, none⟩ (.int .u32 0)).setCell ⟨gr, 5, none⟩ (.int .u32 0)).setCell ⟨gr, 6, none⟩ (.int .u32 0))) ?hg ?ho ?hn ?hr ?_; (case ho => rfl); (case hg => rfl); (case hn => rfl); (case hr => first | (go_simp; done) | (go_simp; rfl)); intro W12 hw; have BR_ := (by rw [hw]; exact bp7_ BR : W12.heap[gr]? = some (.cells vA0 24 (0, 0))); have HB_ := (by rw [hw]; exact (below_set (below_set (below_set (below_set (below_set (below_set (below_set HB wgr) wgr) wgr) wgr) wgr) wgr) wgr) : Below w.heap.size w W12); clear hw HB BR; have HB := HB_; have BR := BR_; clear HB_ BR_; (try clear kr0_); (try clear zkr0_); (try clear kr1_); (try clear zkr1_); (try clear kr2_); (try clear zkr2_); (try clear kr3_); (try clear zkr3_); (try clear kr4_); (try clear zkr4_); (try clear kr5_); (try clear zkr5_); (try clear kr6_); (try clear zkr6_)))
      refine bodyPost_ret (results_ct rfl _ _ gr 24 vA0 (0, 0) _ rfl BR Tryd.underlying24 rfl (by kernel_rfl)) rfl ?_
      exact ⟨rfl, HB⟩
     rw [c1_] at hx0 hx0'
     by_cases c2_ : f.f1.length = 1
     rotate_left
     ·
      rw [if_neg (fun q_ => c2_ q_.2)] at hres
      simp only [Prod.mk.injEq] at hres
      obtain ⟨rfl, rfl, rfl, rfl, rfl, rfl, rfl, rfl⟩ := hres
      have e1 : ((f.f1.length : Int) != 1) = true := bne_iff_ne.mpr (by omega)
      have e2 : (f.f1.length == 1) = false := beq_eq_false_iff_ne.mpr c2_
      have e3 : ((f.f1.length : Int) == 1) = false := beq_eq_false_iff_ne.mpr (by omega)
      have e4 : (f.f1.length != 1) = true := bne_iff_ne.mpr c2_
      clear hVr HCut hi1
      go_wp2_with (first | (go_at_call 20; (with_reducible refine (msg_part.calls v 6 true _ (hG.below HB) AP.out).mono ?_); rintro e w9 ⟨rfl, hd_⟩; have hb_ := hd_.below; clear hd_; replace BM := blk_below BM hb_; replace BR := blk_below BR hb_; replace hV := Kd.V_below hV hb_; replace HB := HB.trans (hb_.mono HB.size); replace hx0 := pw_cell_below hb_ hx0; replace hx0' := pw_cell_below hb_ hx0'; replace hx1 := pw_cell_below hb_ hx1; replace hx1' := pw_cell_below hb_ hx1'; clear hb_; (try clear km0_); (try clear zkm0_); (try clear km1_); (try clear zkm1_); (try clear km2_); (try clear zkm2_); (try clear km3_); (try clear zkm3_); (try clear km4_); (try clear zkm4_); (try clear km5_); (try clear zkm5_); (try clear km6_); (try clear zkm6_); (try clear kr0_); (try clear zkr0_); (try clear kr1_); (try clear zkr1_); (try clear kr2_); (try clear zkr2_); (try clear kr3_); (try clear zkr3_); (try clear kr4_); (try clear zkr4_); (try clear kr5_); (try clear zkr5_); (try clear kr6_); (try clear zkr6_); have km0_ : w9.cell? ⟨gm, 0, none⟩ = some (.int .u32 v) := (blk_cell BM 0).trans rfl; have zkm0_ := blk_frozen BM 0; have km1_ : w9.cell? ⟨gm, 1, none⟩ = some (.int .u32 m1) := (blk_cell BM 1).trans rfl; have zkm1_ := blk_frozen BM 1; have km2_ : w9.cell? ⟨gm, 2, none⟩ = some (.int .u32 m2) := (blk_cell BM 2).trans rfl; have zkm2_ := blk_frozen BM 2; have km3_ : w9.cell? ⟨gm, 3, none⟩ = some (.int .u32 m3) := (blk_cell BM 3).trans rfl; have zkm3_ := blk_frozen BM 3; have km4_ : w9.cell? ⟨gm, 4, none⟩ = some (.int .u32 m4) := (blk_cell BM 4).trans rfl; have zkm4_ := blk_frozen BM 4; have km5_ : w9.cell? ⟨gm, 5, none⟩ = some (.int .u32 m5) := (blk_cell BM 5).trans rfl; have zkm5_ := blk_frozen BM 5; have km6_ : w9.cell? ⟨gm, 6, none⟩ = some (.int .u32 m6) := (blk_cell BM 6).trans rfl; have zkm6_ := blk_frozen BM 6; have kr0_ : w9.cell? ⟨gr, 0, none⟩ = some (.int .u32 0) := (blk_cell BR 0).trans rfl; have zkr0_ := blk_frozen BR 0; have kr1_ : w9.cell? ⟨gr, 1, none⟩ = some (.int .u32 0) := (blk_cell BR 1).trans rfl; have zkr1_ := blk_frozen BR 1; have kr2_ : w9.cell? ⟨gr, 2, none⟩ = some (.int .u32 0) := (blk_cell BR 2).trans rfl; have zkr2_ := blk_frozen BR 2; have kr3_ : w9.cell? ⟨gr, 3, none⟩ = some (.int .u32 0) := (blk_cell BR 3).trans rfl; have zkr3_ := blk_frozen BR 3; have kr4_ : w9.cell? ⟨gr, 4, none⟩ = some (.int .u32 0) := (blk_cell BR 4).trans rfl; have zkr4_ := blk_frozen BR 4; have kr5_ : w9.cell? ⟨gr, 5, none⟩ = some (.int .u32 0) := (blk_cell BR 5).trans rfl; have zkr5_ := blk_frozen BR 5; have kr6_ : w9.cell? ⟨gr, 6, none⟩ = some (.int .u32 0) := (blk_cell BR 6).trans rfl; have zkr6_ := blk_frozen BR 6) | ((with_reducible refine gate_store (t := 24) (p := 2) rfl ?_); refine store_event (t := 24) (p := 2) (v := ?voi6_) (w1 := (((((((w9.setCell ⟨gr, 0, none⟩ (.int .u32 0)).setCell ⟨gr, 1, none⟩ (.int .u32 0)).setCell ⟨gr, 2, none⟩ (.int .u32 0)).setCell ⟨gr, 3, none⟩ (.int .u32 0)).setCell ⟨gr, 4, none⟩ (.int .u32 0)).setCell ⟨gr, 5, none⟩ (.int .u32 0)).setCell ⟨gr, 6, none⟩ (.int .u32 0))) ?hg ?ho ?hn ?hr ?_; (case ho => rfl); (case hg => rfl); (case hn => rfl); (case hr => first | (go_simp; done) | (go_simp; rfl)); intro W13 hw; have BR_ := (by rw [hw]; exact bp7_ BR : W13.heap[gr]? = some (.cells vA0 24 (0, 0))); have HB_ := (by rw [hw]; exact (below_set (below_set (below_set (below_set (below_set (below_set (below_set HB wgr) wgr) wgr) wgr) wgr) wgr) wgr) : Below w.heap.size w W13); clear hw HB BR; have HB := HB_; have BR := BR_; clear HB_ BR_; (try clear kr0_); (try clear zkr0_); (try clear kr1_); (try clear zkr1_); (try clear kr2_); (try clear zkr2_); (try clear kr3_); (try clear zkr3_); (try clear kr4_); (try clear zkr4_); (try clear kr5_); (try clear zkr5_); (try clear kr6_); (try clear zkr6_)))
      refine bodyPost_ret (results_ct rfl _ _ gr 24 vA0 (0, 0) _ rfl BR Tryd.underlying24 rfl (by kernel_rfl)) rfl ?_
      exact ⟨rfl, HB⟩
     rw [if_pos ⟨c1_, c2_⟩] at hres
     rw [c2_] at hx1 hx1'
     obtain ⟨ad1, e1A, hy⟩ := Kd.at_int hi1 0 (by decide) (by rw [c2_]; decide)
     subst e1A
     obtain ⟨u, hu⟩ : ∃ u, u = rd f.f1 0 := ⟨_, rfl⟩
     rw [← hu] at hy hres
     have hy : wr.cell? (ad1.add 0) = some (.int .u32 u) := hy
     have hy' : wr.cell? ad1 = some (.int .u32 u) := msg.add0 ad1 ▸ hy
     clear hi1 c1_ c2_ hu hV
     have hres2 : msg.res v 1 ft m1 m2 m3 m4 u m6 = (r1, r2, r3, r4, r5, r6, r7, r8) := hres
     clear hres
     go_wp2_with (first | (go_at_call 20; (with_reducible refine (msg_part.calls v 6 true _ (hG.below HB) AP.out).mono ?_); rintro e w9 ⟨rfl, hd_⟩; have hb_ := hd_.below; clear hd_; replace BM := blk_below BM hb_; replace BR := blk_below BR hb_; replace hVr := Kd.V_below hVr hb_; replace HB := HB.trans (hb_.mono HB.size); replace hx0 := pw_cell_below hb_ hx0; replace hx0' := pw_cell_below hb_ hx0'; replace hx1 := pw_cell_below hb_ hx1; replace hx1' := pw_cell_below hb_ hx1'; replace hy := pw_cell_below hb_ hy; replace hy' := pw_cell_below hb_ hy'; clear hb_; (try clear km0_); (try clear zkm0_); (try clear km1_); (try clear zkm1_); (try clear km2_); (try clear zkm2_); (try clear km3_); (try clear zkm3_); (try clear km4_); (try clear zkm4_); (try clear km5_); (try clear zkm5_); (try clear km6_); (try clear zkm6_); (try clear kr0_); (try clear zkr0_); (try clear kr1_); (try clear zkr1_); (try clear kr2_); (try clear zkr2_); (try clear kr3_); (try clear zkr3_); (try clear kr4_); (try clear zkr4_); (try clear kr5_); (try clear zkr5_); (try clear kr6_); (try clear zkr6_); have km0_ : w9.cell? ⟨gm, 0, none⟩ = some (.int .u32 v) := (blk_cell BM 0).trans rfl; have zkm0_ := blk_frozen BM 0; have km1_ : w9.cell? ⟨gm, 1, none⟩ = some (.int .u32 m1) := (blk_cell BM 1).trans rfl; have zkm1_ := blk_frozen BM 1; have km2_ : w9.cell? ⟨gm, 2, none⟩ = some (.int .u32 m2) := (blk_cell BM 2).trans rfl; have zkm2_ := blk_frozen BM 2; have km3_ : w9.cell? ⟨gm, 3, none⟩ = some (.int .u32 m3) := (blk_cell BM 3).trans rfl; have zkm3_ := blk_frozen BM 3; have km4_ : w9.cell? ⟨gm, 4, none⟩ = some (.int .u32 m4) := (blk_cell BM 4).trans rfl; have zkm4_ := blk_frozen BM 4; have km5_ : w9.cell? ⟨gm, 5, none⟩ = some (.int .u32 m5) := (blk_cell BM 5).trans rfl; have zkm5_ := blk_frozen BM 5; have km6_ : w9.cell? ⟨gm, 6, none⟩ = some (.int .u32 m6) := (blk_cell BM 6).trans rfl; have zkm6_ := blk_frozen BM 6; have kr0_ : w9.cell? ⟨gr, 0, none⟩ = some (.int .u32 0) := (blk_cell BR 0).trans rfl; have zkr0_ := blk_frozen BR 0; have kr1_ : w9.cell? ⟨gr, 1, none⟩ = some (.int .u32 0) := (blk_cell BR 1).trans rfl; have zkr1_ := blk_frozen BR 1; have kr2_ : w9.cell? ⟨gr, 2, none⟩ = some (.int .u32 0) := (blk_cell BR 2).trans rfl; have zkr2_ := blk_frozen BR 2; have kr3_ : w9.cell? ⟨gr, 3, none⟩ = some (.int .u32 0) := (blk_cell BR 3).trans rfl; have zkr3_ := blk_frozen BR 3; have kr4_ : w9.cell? ⟨gr, 4, none⟩ = some (.int .u32 0) := (blk_cell BR 4).trans rfl; have zkr4_ := blk_frozen BR 4; have kr5_ : w9.cell? ⟨gr, 5, none⟩ = some (.int .u32 0) := (blk_cell BR 5).trans rfl; have zkr5_ := blk_frozen BR 5; have kr6_ : w9.cell? ⟨gr, 6, none⟩ = some (.int .u32 0) := (blk_cell BR 6).trans rfl; have zkr6_ := blk_frozen BR 6) | ((with_reducible refine gate_store (t := 22) (p := 108) rfl ?_); refine store_event (t := 22) (p := 108) (v := ?vw6_) (w1 := w9.setCell ⟨gm, 5, none⟩ (.int .u32 u)) ?hg ?ho ?hn ?hr ?_; (case ho => rfl); (case hg => rfl); (case hn => rfl); (case hr => first | (go_simp; done) | (go_simp; rfl)); intro W14 hw; have BM_ := (by rw [hw]; exact blk_put (cs := #[.int .u32 v, .int .u32 m1, .int .u32 m2, .int .u32 m3, .int .u32 m4, .int .u32 m5, .int .u32 m6]) (cs' := #[.int .u32 v, .int .u32 m1, .int .u32 m2, .int .u32 m3, .int .u32 m4, .int .u32 u, .int .u32 m6]) BM 5 _ rfl : W14.heap[gm]? = some (.cells #[.int .u32 v, .int .u32 m1, .int .u32 m2, .int .u32 m3, .int .u32 m4, .int .u32 u, .int .u32 m6] 24 (0, 0))); have BR_ := (by rw [hw]; exact blk_far (p := ⟨gm, 5, none⟩) BR (Nat.ne_of_lt lrm) _ : W14.heap[gr]? = some (.cells vA0 24 (0, 0))); have hV_ := (by rw [hw]; exact Kd.V_far (p := ⟨gm, 5, none⟩) hVr (fun k hk => hk.1) _ : Kd.V k45 45 W14 0 (fun k => k ≠ gm ∧ k ≠ gr) (.slice Ar ft.length cr) ft); have HB_ := (by rw [hw]; exact below_set (g := gm) (j := 5) (v := .int .u32 u) HB (Nat.le_trans wgr (Nat.le_of_lt lrm)) : Below w.heap.size w W14); clear hw BM BR hVr HB; have BM := BM_; have BR := BR_; have hV := hV_; have HB := HB_; clear BM_ BR_ hV_ HB_; (try clear km0_); (try clear zkm0_); (try clear km1_); (try clear zkm1_); (try clear km2_); (try clear zkm2_); (try clear km3_); (try clear zkm3_); (try clear km4_); (try clear zkm4_); (try clear km5_); (try clear zkm5_); (try clear km6_); (try clear zkm6_); (try clear kr0_); (try clear zkr0_); (try clear kr1_); (try clear zkr1_); (try clear kr2_); (try clear zkr2_); (try clear kr3_); (try clear zkr3_); (try clear kr4_); (try clear zkr4_); (try clear kr5_); (try clear zkr5_); (try clear kr6_); (try clear zkr6_)))
     go_roundg k2
     case measure => exact Nat.lt_succ_self _
     case rel => exact ⟨7, ft, Ar, cr, m1, m2, m3, m4, u, m6, rfl, (by first | rfl | (simp; done)), ⟨by omega⟩, ⟨by omega⟩, ⟨hres2⟩, ⟨hV⟩, ⟨BM⟩, ⟨BR⟩, ⟨HB⟩⟩
   ·
    have hI := msg.idx7 gm
    clear hi c_
    obtain ⟨b, hb⟩ : ∃ b, b = msg.hasB v 7 := ⟨_, rfl⟩
    have AP := Aside0.mk (show msg_part.f v 7 = some b by unfold msg_part.f; rw [if_pos ⟨hk, by decide⟩, hb])
    replace hres := (msg.res_succ v 0 fs m1 m2 m3 m4 m5 m6).symm.trans hres
    cases b with
    | false =>
     rw [if_neg (fun q_ => by have h2 := q_.2; rw [show msg.hasB v ((7 - 0 : Nat) : Int) = false from hb.symm] at h2; cases h2)] at hres
     clear hb
     go_wp2_with (first | (go_at_call 20; (with_reducible refine (msg_part.calls v 7 false _ (hG.below HB) AP.out).mono ?_); rintro e w9 ⟨rfl, hd_⟩; have hb_ := hd_.below; clear hd_; replace BM := blk_below BM hb_; replace BR := blk_below BR hb_; replace hV := Kd.V_below hV hb_; replace HB := HB.trans (hb_.mono HB.size); clear hb_; (try clear km0_); (try clear zkm0_); (try clear km1_); (try clear zkm1_); (try clear km2_); (try clear zkm2_); (try clear km3_); (try clear zkm3_); (try clear km4_); (try clear zkm4_); (try clear km5_); (try clear zkm5_); (try clear km6_); (try clear zkm6_); (try clear kr0_); (try clear zkr0_); (try clear kr1_); (try clear zkr1_); (try clear kr2_); (try clear zkr2_); (try clear kr3_); (try clear zkr3_); (try clear kr4_); (try clear zkr4_); (try clear kr5_); (try clear zkr5_); (try clear kr6_); (try clear zkr6_); have km0_ : w9.cell? ⟨gm, 0, none⟩ = some (.int .u32 v) := (blk_cell BM 0).trans rfl; have zkm0_ := blk_frozen BM 0; have km1_ : w9.cell? ⟨gm, 1, none⟩ = some (.int .u32 m1) := (blk_cell BM 1).trans rfl; have zkm1_ := blk_frozen BM 1; have km2_ : w9.cell? ⟨gm, 2, none⟩ = some (.int .u32 m2) := (blk_cell BM 2).trans rfl; have zkm2_ := blk_frozen BM 2; have km3_ : w9.cell? ⟨gm, 3, none⟩ = some (.int .u32 m3) := (blk_cell BM 3).trans rfl; have zkm3_ := blk_frozen BM 3; have km4_ : w9.cell? ⟨gm, 4, none⟩ = some (.int .u32 m4) := (blk_cell BM 4).trans rfl; have zkm4_ := blk_frozen BM 4; have km5_ : w9.cell? ⟨gm, 5, none⟩ = some (.int .u32 m5) := (blk_cell BM 5).trans rfl; have zkm5_ := blk_frozen BM 5; have km6_ : w9.cell? ⟨gm, 6, none⟩ = some (.int .u32 m6) := (blk_cell BM 6).trans rfl; have zkm6_ := blk_frozen BM 6; have kr0_ : w9.cell? ⟨gr, 0, none⟩ = some (.int .u32 0) := (blk_cell BR 0).trans rfl; have zkr0_ := blk_frozen BR 0; have kr1_ : w9.cell? ⟨gr, 1, none⟩ = some (.int .u32 0) := (blk_cell BR 1).trans rfl; have zkr1_ := blk_frozen BR 1; have kr2_ : w9.cell? ⟨gr, 2, none⟩ = some (.int .u32 0) := (blk_cell BR 2).trans rfl; have zkr2_ := blk_frozen BR 2; have kr3_ : w9.cell? ⟨gr, 3, none⟩ = some (.int .u32 0) := (blk_cell BR 3).trans rfl; have zkr3_ := blk_frozen BR 3; have kr4_ : w9.cell? ⟨gr, 4, none⟩ = some (.int .u32 0) := (blk_cell BR 4).trans rfl; have zkr4_ := blk_frozen BR 4; have kr5_ : w9.cell? ⟨gr, 5, none⟩ = some (.int .u32 0) := (blk_cell BR 5).trans rfl; have zkr5_ := blk_frozen BR 5; have kr6_ : w9.cell? ⟨gr, 6, none⟩ = some (.int .u32 0) := (blk_cell BR 6).trans rfl; have zkr6_ := blk_frozen BR 6))
     go_roundg k2
     case measure => exact Nat.lt_succ_self _
     case rel => exact ⟨8, fs, A, c, m1, m2, m3, m4, m5, m6, rfl, (by first | rfl | (simp; done)), ⟨by omega⟩, ⟨by omega⟩, ⟨hres⟩, ⟨hV⟩, ⟨BM⟩, ⟨BR⟩, ⟨HB⟩⟩
    | true =>
     rw [if_pos ⟨by decide, hb.symm⟩] at hres
     clear hb
     cases fs with
     | nil =>
      simp only [Prod.mk.injEq] at hres
      obtain ⟨rfl, rfl, rfl, rfl, rfl, rfl, rfl, rfl⟩ := hres
      simp only [List.length_nil]
      simp only [List.length_nil] at hV
      go_wp2_with (first | (go_at_call 20; (with_reducible refine (msg_part.calls v 7 true _ (hG.below HB) AP.out).mono ?_); rintro e w9 ⟨rfl, hd_⟩; have hb_ := hd_.below; clear hd_; replace BM := blk_below BM hb_; replace BR := blk_below BR hb_; replace hV := Kd.V_below hV hb_; replace HB := HB.trans (hb_.mono HB.size); clear hb_; (try clear km0_); (try clear zkm0_); (try clear km1_); (try clear zkm1_); (try clear km2_); (try clear zkm2_); (try clear km3_); (try clear zkm3_); (try clear km4_); (try clear zkm4_); (try clear km5_); (try clear zkm5_); (try clear km6_); (try clear zkm6_); (try clear kr0_); (try clear zkr0_); (try clear kr1_); (try clear zkr1_); (try clear kr2_); (try clear zkr2_); (try clear kr3_); (try clear zkr3_); (try clear kr4_); (try clear zkr4_); (try clear kr5_); (try clear zkr5_); (try clear kr6_); (try clear zkr6_); have km0_ : w9.cell? ⟨gm, 0, none⟩ = some (.int .u32 v) := (blk_cell BM 0).trans rfl; have zkm0_ := blk_frozen BM 0; have km1_ : w9.cell? ⟨gm, 1, none⟩ = some (.int .u32 m1) := (blk_cell BM 1).trans rfl; have zkm1_ := blk_frozen BM 1; have km2_ : w9.cell? ⟨gm, 2, none⟩ = some (.int .u32 m2) := (blk_cell BM 2).trans rfl; have zkm2_ := blk_frozen BM 2; have km3_ : w9.cell? ⟨gm, 3, none⟩ = some (.int .u32 m3) := (blk_cell BM 3).trans rfl; have zkm3_ := blk_frozen BM 3; have km4_ : w9.cell? ⟨gm, 4, none⟩ = some (.int .u32 m4) := (blk_cell BM 4).trans rfl; have zkm4_ := blk_frozen BM 4; have km5_ : w9.cell? ⟨gm, 5, none⟩ = some (.int .u32 m5) := (blk_cell BM 5).trans rfl; have zkm5_ := blk_frozen BM 5; have km6_ : w9.cell? ⟨gm, 6, none⟩ = some (.int .u32 m6) := (blk_cell BM 6).trans rfl; have zkm6_ := blk_frozen BM 6; have kr0_ : w9.cell? ⟨gr, 0, none⟩ = some (.int .u32 0) := (blk_cell BR 0).trans rfl; have zkr0_ := blk_frozen BR 0; have kr1_ : w9.cell? ⟨gr, 1, none⟩ = some (.int .u32 0) := (blk_cell BR 1).trans rfl; have zkr1_ := blk_frozen BR 1; have kr2_ : w9.cell? ⟨gr, 2, none⟩ = some (.int .u32 0) := (blk_cell BR 2).trans rfl; have zkr2_ := blk_frozen BR 2; have kr3_ : w9.cell? ⟨gr, 3, none⟩ = some (.int .u32 0) := (blk_cell BR 3).trans rfl; have zkr3_ := blk_frozen BR 3; have kr4_ : w9.cell? ⟨gr, 4, none⟩ = some (.int .u32 0) := (blk_cell BR 4).trans rfl; have zkr4_ := blk_frozen BR 4; have kr5_ : w9.cell? ⟨gr, 5, none⟩ = some (.int .u32 0) := (blk_cell BR 5).trans rfl; have zkr5_ := blk_frozen BR 5; have kr6_ : w9.cell? ⟨gr, 6, none⟩ = some (.int .u32 0) := (blk_cell BR 6).trans rfl; have zkr6_ := blk_frozen BR 6) | ((with_reducible refine gate_store (t := 24) (p := 2) rfl ?_); refine store_event (t := 24) (p := 2) (v := ?vog7_) (w1 := (((((((w9.setCell ⟨gr, 0, none⟩ (.int .u32 0)).setCell ⟨gr, 1, none⟩ (.int .u32 0)).setCell ⟨gr, 2, none⟩ (.int .u32 0)).setCell ⟨gr, 3, none⟩ (.int .u32 0)).setCell ⟨gr, 4, none⟩ (.int .u32 0)).setCell ⟨gr, 5, none⟩ (.int .u32 0)).setCell ⟨gr, 6, none⟩ (.int .u32 0))) ?hg ?ho ?hn ?hr ?_; (case ho => rfl); (case hg => rfl); (case hn => rfl); (case hr => first | (go_simp; done) | (go_simp; rfl)); intro W11 hw; have BR_ := (by rw [hw]; exact bp7_ BR : W11.heap[gr]? = some (.cells vA0 24 (0, 0))); have HB_ := (by rw [hw]; exact (below_set (below_set (below_set (below_set (below_set (below_set (below_set HB wgr) wgr) wgr) wgr) wgr) wgr) wgr) : Below w.heap.size w W11); clear hw HB BR; have HB := HB_; have BR := BR_; clear HB_ BR_; (try clear kr0_); (try clear zkr0_); (try clear kr1_); (try clear zkr1_); (try clear kr2_); (try clear zkr2_); (try clear kr3_); (try clear zkr3_); (try clear kr4_); (try clear zkr4_); (try clear kr5_); (try clear zkr5_); (try clear kr6_); (try clear zkr6_)))
      refine bodyPost_ret (results_ct rfl _ _ gr 24 vA0 (0, 0) _ rfl BR Tryd.underlying24 rfl (by kernel_rfl)) rfl ?_
      exact ⟨rfl, HB⟩
     | cons f ft =>
     dsimp only at hres
     obtain ⟨ad, A1, c1, eA, hx0, hx0', hx1, hx1', hi1⟩ := msg.first hV
     subst eA
     obtain ⟨Ar, hVr, HCut⟩ := msg.rest hV
     obtain ⟨cr, hcr⟩ : ∃ cr, cr = c - 1 := ⟨_, rfl⟩
     rw [← hcr] at hVr HCut
     clear hcr
     obtain ⟨N, hN⟩ : ∃ N, N = (f :: ft).length := ⟨_, rfl⟩
     rw [← hN] at hV HCut ⊢
     have hNp : 1 ≤ N := by rw [hN, List.length_cons]; omega
     have n0 : ((N : Int) == 0) = false := beq_eq_false_iff_ne.mpr (by omega)
     have n1 : (N == 0) = false := beq_eq_false_iff_ne.mpr (by omega)
     have n2 : decide (N = 0) = false := decide_eq_false (by omega)
     have n3 : (0 < N) = True := eq_true (by omega)
     have n4 : ((0 : Int) < (N : Int)) = True := eq_true (by omega)
     clear hN hNp
     by_cases c1_ : f.f0 = 7
     rotate_left
     ·
      rw [if_neg (fun q_ => c1_ q_.1)] at hres
      simp only [Prod.mk.injEq] at hres
      obtain ⟨rfl, rfl, rfl, rfl, rfl, rfl, rfl, rfl⟩ := hres
      have e1 : (f.f0 != 7) = true := bne_iff_ne.mpr c1_
      have e2 : (f.f0 == 7) = false := beq_eq_false_iff_ne.mpr c1_
      clear hVr HCut hi1
      go_wp2_with (first | (go_at_call 20; (with_reducible refine (msg_part.calls v 7 true _ (hG.below HB) AP.out).mono ?_); rintro e w9 ⟨rfl, hd_⟩; have hb_ := hd_.below; clear hd_; replace BM := blk_below BM hb_; replace BR := blk_below BR hb_; replace hV := Kd.V_below hV hb_; replace HB := HB.trans (hb_.mono HB.size); replace hx0 := pw_cell_below hb_ hx0; replace hx0' := pw_cell_below hb_ hx0'; replace hx1 := pw_cell_below hb_ hx1; replace hx1' := pw_cell_below hb_ hx1'; clear hb_; (try clear km0_); (try clear zkm0_); (try clear km1_); (try clear zkm1_); (try clear km2_); (try clear zkm2_); (try clear km3_); (try clear zkm3_); (try clear km4_); (try clear zkm4_); (try clear km5_); (try clear zkm5_); (try clear km6_); (try clear zkm6_); (try clear kr0_); (try clear zkr0_); (try clear kr1_); (try clear zkr1_); (try clear kr2_); (try clear zkr2_); (try clear kr3_); (try clear zkr3_); (try clear kr4_); (try clear zkr4_); (try clear kr5_); (try clear zkr5_); (try clear kr6_); (try clear zkr6_); have km0_ : w9.cell? ⟨gm, 0, none⟩ = some (.int .u32 v) := (blk_cell BM 0).trans rfl; have zkm0_ := blk_frozen BM 0; have km1_ : w9.cell? ⟨gm, 1, none⟩ = some (.int .u32 m1) := (blk_cell BM 1).trans rfl; have zkm1_ := blk_frozen BM 1; have km2_ : w9.cell? ⟨gm, 2, none⟩ = some (.int .u32 m2) := (blk_cell BM 2).trans rfl; have zkm2_ := blk_frozen BM 2; have km3_ : w9.cell? ⟨gm, 3, none⟩ = some (.int .u32 m3) := (blk_cell BM 3).trans rfl; have zkm3_ := blk_frozen BM 3; have km4_ : w9.cell? ⟨gm, 4, none⟩ = some (.int .u32 m4) := (blk_cell BM 4).trans rfl; have zkm4_ := blk_frozen BM 4; have km5_ : w9.cell? ⟨gm, 5, none⟩ = some (.int .u32 m5) := (blk_cell BM 5).trans rfl; have zkm5_ := blk_frozen BM 5; have km6_ : w9.cell? ⟨gm, 6, none⟩ = some (.int .u32 m6) := (blk_cell BM 6).trans rfl; have zkm6_ := blk_frozen BM 6; have kr0_ : w9.cell? ⟨gr, 0, none⟩ = some (.int .u32 0) := (blk_cell BR 0).trans rfl; have zkr0_ := blk_frozen BR 0; have kr1_ : w9.cell? ⟨gr, 1, none⟩ = some (.int .u32 0) := (blk_cell BR 1).trans rfl; have zkr1_ := blk_frozen BR 1; have kr2_ : w9.cell? ⟨gr, 2, none⟩ = some (.int .u32 0) := (blk_cell BR 2).trans rfl; have zkr2_ := blk_frozen BR 2; have kr3_ : w9.cell? ⟨gr, 3, none⟩ = some (.int .u32 0) := (blk_cell BR 3).trans rfl; have zkr3_ := blk_frozen BR 3; have kr4_ : w9.cell? ⟨gr, 4, none⟩ = some (.int .u32 0) := (blk_cell BR 4).trans rfl; have zkr4_ := blk_frozen BR 4; have kr5_ : w9.cell? ⟨gr, 5, none⟩ = some (.int .u32 0) := (blk_cell BR 5).trans rfl; have zkr5_ := blk_frozen BR 5; have kr6_ : w9.cell? ⟨gr, 6, none⟩ = some (.int .u32 0) := (blk_cell BR 6).trans rfl; have zkr6_ := blk_frozen BR 6) | ((with_reducible refine gate_store (t := 24) (p := 2) rfl ?_); refine store_event (t := 24) (p := 2) (v := ?voh7_) (w1 := (((((((w9.setCell ⟨gr, 0, none⟩ (.int .u32 0)).setCell ⟨gr, 1, none⟩ (.int .u32 0)).setCell ⟨gr, 2, none⟩ (.int .u32 0)).setCell ⟨gr, 3, none⟩ (.int .u32 0)).setCell ⟨gr, 4, none⟩ (.int .u32 0)).setCell ⟨gr, 5, none⟩ (.int .u32 0)).setCell ⟨gr, 6, none⟩ (.int .u32 0))) ?hg ?ho ?hn ?hr ?_; (case ho => rfl); (case hg => rfl); (case hn => rfl); (case hr => first | (go_simp; done) | (go_simp; rfl)); intro W12 hw; have BR_ := (by rw [hw]; exact bp7_ BR : W12.heap[gr]? = some (.cells vA0 24 (0, 0))); have HB_ := (by rw [hw]; exact (below_set (below_set (below_set (below_set (below_set (below_set (below_set HB wgr) wgr) wgr) wgr) wgr) wgr) wgr) : Below w.heap.size w W12); clear hw HB BR; have HB := HB_; have BR := BR_; clear HB_ BR_; (try clear kr0_); (try clear zkr0_); (try clear kr1_); (try clear zkr1_); (try clear kr2_); (try clear zkr2_); (try clear kr3_); (try clear zkr3_); (try clear kr4_); (try clear zkr4_); (try clear kr5_); (try clear zkr5_); (try clear kr6_); (try clear zkr6_)))
      refine bodyPost_ret (results_ct rfl _ _ gr 24 vA0 (0, 0) _ rfl BR Tryd.underlying24 rfl (by kernel_rfl)) rfl ?_
      exact ⟨rfl, HB⟩
     rw [c1_] at hx0 hx0'
     by_cases c2_ : f.f1.length = 1
     rotate_left
     ·
      rw [if_neg (fun q_ => c2_ q_.2)] at hres
      simp only [Prod.mk.injEq] at hres
      obtain ⟨rfl, rfl, rfl, rfl, rfl, rfl, rfl, rfl⟩ := hres
      have e1 : ((f.f1.length : Int) != 1) = true := bne_iff_ne.mpr (by omega)
      have e2 : (f.f1.length == 1) = false := beq_eq_false_iff_ne.mpr c2_
      have e3 : ((f.f1.length : Int) == 1) = false := beq_eq_false_iff_ne.mpr (by omega)
      have e4 : (f.f1.length != 1) = true := bne_iff_ne.mpr c2_
      clear hVr HCut hi1
      go_wp2_with (first | (go_at_call 20; (with_reducible refine (msg_part.calls v 7 true _ (hG.below HB) AP.out).mono ?_); rintro e w9 ⟨rfl, hd_⟩; have hb_ := hd_.below; clear hd_; replace BM := blk_below BM hb_; replace BR := blk_below BR hb_; replace hV := Kd.V_below hV hb_; replace HB := HB.trans (hb_.mono HB.size); replace hx0 := pw_cell_below hb_ hx0; replace hx0' := pw_cell_below hb_ hx0'; replace hx1 := pw_cell_below hb_ hx1; replace hx1' := pw_cell_below hb_ hx1'; clear hb_; (try clear km0_); (try clear zkm0_); (try clear km1_); (try clear zkm1_); (try clear km2_); (try clear zkm2_); (try clear km3_); (try clear zkm3_); (try clear km4_); (try clear zkm4_); (try clear km5_); (try clear zkm5_); (try clear km6_); (try clear zkm6_); (try clear kr0_); (try clear zkr0_); (try clear kr1_); (try clear zkr1_); (try clear kr2_); (try clear zkr2_); (try clear kr3_); (try clear zkr3_); (try clear kr4_); (try clear zkr4_); (try clear kr5_); (try clear zkr5_); (try clear kr6_); (try clear zkr6_); have km0_ : w9.cell? ⟨gm, 0, none⟩ = some (.int .u32 v) := (blk_cell BM 0).trans rfl; have zkm0_ := blk_frozen BM 0; have km1_ : w9.cell? ⟨gm, 1, none⟩ = some (.int .u32 m1) := (blk_cell BM 1).trans rfl; have zkm1_ := blk_frozen BM 1; have km2_ : w9.cell? ⟨gm, 2, none⟩ = some (.int .u32 m2) := (blk_cell BM 2).trans rfl; have zkm2_ := blk_frozen BM 2; have km3_ : w9.cell? ⟨gm, 3, none⟩ = some (.int .u32 m3) := (blk_cell BM 3).trans rfl; have zkm3_ := blk_frozen BM 3; have km4_ : w9.cell? ⟨gm, 4, none⟩ = some (.int .u32 m4) := (blk_cell BM 4).trans rfl; have zkm4_ := blk_frozen BM 4; have km5_ : w9.cell? ⟨gm, 5, none⟩ = some (.int .u32 m5) := (blk_cell BM 5).trans rfl; have zkm5_ := blk_frozen BM 5; have km6_ : w9.cell? ⟨gm, 6, none⟩ = some (.int .u32 m6) := (blk_cell BM 6).trans rfl; have zkm6_ := blk_frozen BM 6; have kr0_ : w9.cell? ⟨gr, 0, none⟩ = some (.int .u32 0) := (blk_cell BR 0).trans rfl; have zkr0_ := blk_frozen BR 0; have kr1_ : w9.cell? ⟨gr, 1, none⟩ = some (.int .u32 0) := (blk_cell BR 1).trans rfl; have zkr1_ := blk_frozen BR 1; have kr2_ : w9.cell? ⟨gr, 2, none⟩ = some (.int .u32 0) := (blk_cell BR 2).trans rfl; have zkr2_ := blk_frozen BR 2; have kr3_ : w9.cell? ⟨gr, 3, none⟩ = some (.int .u32 0) := (blk_cell BR 3).trans rfl; have zkr3_ := blk_frozen BR 3; have kr4_ : w9.cell? ⟨gr, 4, none⟩ = some (.int .u32 0) := (blk_cell BR 4).trans rfl; have zkr4_ := blk_frozen BR 4; have kr5_ : w9.cell? ⟨gr, 5, none⟩ = some (.int .u32 0) := (blk_cell BR 5).trans rfl; have zkr5_ := blk_frozen BR 5; have kr6_ : w9.cell? ⟨gr, 6, none⟩ = some (.int .u32 0) := (blk_cell BR 6).trans rfl; have zkr6_ := blk_frozen BR 6) | ((with_reducible refine gate_store (t := 24) (p := 2) rfl ?_); refine store_event (t := 24) (p := 2) (v := ?voi7_) (w1 := (((((((w9.setCell ⟨gr, 0, none⟩ (.int .u32 0)).setCell ⟨gr, 1, none⟩ (.int .u32 0)).setCell ⟨gr, 2, none⟩ (.int .u32 0)).setCell ⟨gr, 3, none⟩ (.int .u32 0)).setCell ⟨gr, 4, none⟩ (.int .u32 0)).setCell ⟨gr, 5, none⟩ (.int .u32 0)).setCell ⟨gr, 6, none⟩ (.int .u32 0))) ?hg ?ho ?hn ?hr ?_; (case ho => rfl); (case hg => rfl); (case hn => rfl); (case hr => first | (go_simp; done) | (go_simp; rfl)); intro W13 hw; have BR_ := (by rw [hw]; exact bp7_ BR : W13.heap[gr]? = some (.cells vA0 24 (0, 0))); have HB_ := (by rw [hw]; exact (below_set (below_set (below_set (below_set (below_set (below_set (below_set HB wgr) wgr) wgr) wgr) wgr) wgr) wgr) : Below w.heap.size w W13); clear hw HB BR; have HB := HB_; have BR := BR_; clear HB_ BR_; (try clear kr0_); (try clear zkr0_); (try clear kr1_); (try clear zkr1_); (try clear kr2_); (try clear zkr2_); (try clear kr3_); (try clear zkr3_); (try clear kr4_); (try clear zkr4_); (try clear kr5_); (try clear zkr5_); (try clear kr6_); (try clear zkr6_)))
      refine bodyPost_ret (results_ct rfl _ _ gr 24 vA0 (0, 0) _ rfl BR Tryd.underlying24 rfl (by kernel_rfl)) rfl ?_
      exact ⟨rfl, HB⟩
     rw [if_pos ⟨c1_, c2_⟩] at hres
     rw [c2_] at hx1 hx1'
     obtain ⟨ad1, e1A, hy⟩ := Kd.at_int hi1 0 (by decide) (by rw [c2_]; decide)
     subst e1A
     obtain ⟨u, hu⟩ : ∃ u, u = rd f.f1 0 := ⟨_, rfl⟩
     rw [← hu] at hy hres
     have hy : wr.cell? (ad1.add 0) = some (.int .u32 u) := hy
     have hy' : wr.cell? ad1 = some (.int .u32 u) := msg.add0 ad1 ▸ hy
     clear hi1 c1_ c2_ hu hV
     have hres2 : msg.res v 0 ft m1 m2 m3 m4 m5 u = (r1, r2, r3, r4, r5, r6, r7, r8) := hres
     clear hres
     go_wp2_with (first | (go_at_call 20; (with_reducible refine (msg_part.calls v 7 true _ (hG.below HB) AP.out).mono ?_); rintro e w9 ⟨rfl, hd_⟩; have hb_ := hd_.below; clear hd_; replace BM := blk_below BM hb_; replace BR := blk_below BR hb_; replace hVr := Kd.V_below hVr hb_; replace HB := HB.trans (hb_.mono HB.size); replace hx0 := pw_cell_below hb_ hx0; replace hx0' := pw_cell_below hb_ hx0'; replace hx1 := pw_cell_below hb_ hx1; replace hx1' := pw_cell_below hb_ hx1'; replace hy := pw_cell_below hb_ hy; replace hy' := pw_cell_below hb_ hy'; clear hb_; (try clear km0_); (try clear zkm0_); (try clear km1_); (try clear zkm1_); (try clear km2_); (try clear zkm2_); (try clear km3_); (try clear zkm3_); (try clear km4_); (try clear zkm4_); (try clear km5_); (try clear zkm5_); (try clear km6_); (try clear zkm6_); (try clear kr0_); (try clear zkr0_); (try clear kr1_); (try clear zkr1_); (try clear kr2_); (try clear zkr2_); (try clear kr3_); (try clear zkr3_); (try clear kr4_); (try clear zkr4_); (try clear kr5_); (try clear zkr5_); (try clear kr6_); (try clear zkr6_); have km0_ : w9.cell? ⟨gm, 0, none⟩ = some (.int .u32 v) := (blk_cell BM 0).trans rfl; have zkm0_ := blk_frozen BM 0; have km1_ : w9.cell? ⟨gm, 1, none⟩ = some (.int .u32 m1) := (blk_cell BM 1).trans rfl; have zkm1_ := blk_frozen BM 1; have km2_ : w9.cell? ⟨gm, 2, none⟩ = some (.int .u32 m2) := (blk_cell BM 2).trans rfl; have zkm2_ := blk_frozen BM 2; have km3_ : w9.cell? ⟨gm, 3, none⟩ = some (.int .u32 m3) := (blk_cell BM 3).trans rfl; have zkm3_ := blk_frozen BM 3; have km4_ : w9.cell? ⟨gm, 4, none⟩ = some (.int .u32 m4) := (blk_cell BM 4).trans rfl; have zkm4_ := blk_frozen BM 4; have km5_ : w9.cell? ⟨gm, 5, none⟩ = some (.int .u32 m5) := (blk_cell BM 5).trans rfl; have zkm5_ := blk_frozen BM 5; have km6_ : w9.cell? ⟨gm, 6, none⟩ = some (.int .u32 m6) := (blk_cell BM 6).trans rfl; have zkm6_ := blk_frozen BM 6; have kr0_ : w9.cell? ⟨gr, 0, none⟩ = some (.int .u32 0) := (blk_cell BR 0).trans rfl; have zkr0_ := blk_frozen BR 0; have kr1_ : w9.cell? ⟨gr, 1, none⟩ = some (.int .u32 0) := (blk_cell BR 1).trans rfl; have zkr1_ := blk_frozen BR 1; have kr2_ : w9.cell? ⟨gr, 2, none⟩ = some (.int .u32 0) := (blk_cell BR 2).trans rfl; have zkr2_ := blk_frozen BR 2; have kr3_ : w9.cell? ⟨gr, 3, none⟩ = some (.int .u32 0) := (blk_cell BR 3).trans rfl; have zkr3_ := blk_frozen BR 3; have kr4_ : w9.cell? ⟨gr, 4, none⟩ = some (.int .u32 0) := (blk_cell BR 4).trans rfl; have zkr4_ := blk_frozen BR 4; have kr5_ : w9.cell? ⟨gr, 5, none⟩ = some (.int .u32 0) := (blk_cell BR 5).trans rfl; have zkr5_ := blk_frozen BR 5; have kr6_ : w9.cell? ⟨gr, 6, none⟩ = some (.int .u32 0) := (blk_cell BR 6).trans rfl; have zkr6_ := blk_frozen BR 6) | ((with_reducible refine gate_store (t := 22) (p := 108) rfl ?_); refine store_event (t := 22) (p := 108) (v := ?vw7_) (w1 := w9.setCell ⟨gm, 6, none⟩ (.int .u32 u)) ?hg ?ho ?hn ?hr ?_; (case ho => rfl); (case hg => rfl); (case hn => rfl); (case hr => first | (go_simp; done) | (go_simp; rfl)); intro W14 hw; have BM_ := (by rw [hw]; exact blk_put (cs := #[.int .u32 v, .int .u32 m1, .int .u32 m2, .int .u32 m3, .int .u32 m4, .int .u32 m5, .int .u32 m6]) (cs' := #[.int .u32 v, .int .u32 m1, .int .u32 m2, .int .u32 m3, .int .u32 m4, .int .u32 m5, .int .u32 u]) BM 6 _ rfl : W14.heap[gm]? = some (.cells #[.int .u32 v, .int .u32 m1, .int .u32 m2, .int .u32 m3, .int .u32 m4, .int .u32 m5, .int .u32 u] 24 (0, 0))); have BR_ := (by rw [hw]; exact blk_far (p := ⟨gm, 6, none⟩) BR (Nat.ne_of_lt lrm) _ : W14.heap[gr]? = some (.cells vA0 24 (0, 0))); have hV_ := (by rw [hw]; exact Kd.V_far (p := ⟨gm, 6, none⟩) hVr (fun k hk => hk.1) _ : Kd.V k45 45 W14 0 (fun k => k ≠ gm ∧ k ≠ gr) (.slice Ar ft.length cr) ft); have HB_ := (by rw [hw]; exact below_set (g := gm) (j := 6) (v := .int .u32 u) HB (Nat.le_trans wgr (Nat.le_of_lt lrm)) : Below w.heap.size w W14); clear hw BM BR hVr HB; have BM := BM_; have BR := BR_; have hV := hV_; have HB := HB_; clear BM_ BR_ hV_ HB_; (try clear km0_); (try clear zkm0_); (try clear km1_); (try clear zkm1_); (try clear km2_); (try clear zkm2_); (try clear km3_); (try clear zkm3_); (try clear km4_); (try clear zkm4_); (try clear km5_); (try clear zkm5_); (try clear km6_); (try clear zkm6_); (try clear kr0_); (try clear zkr0_); (try clear kr1_); (try clear zkr1_); (try clear kr2_); (try clear zkr2_); (try clear kr3_); (try clear zkr3_); (try clear kr4_); (try clear zkr4_); (try clear kr5_); (try clear zkr5_); (try clear kr6_); (try clear zkr6_)))
     go_roundg k2
     case measure => exact Nat.lt_succ_self _
     case rel => exact ⟨8, ft, Ar, cr, m1, m2, m3, m4, m5, u, rfl, (by first | rfl | (simp; done)), ⟨by omega⟩, ⟨by omega⟩, ⟨hres2⟩, ⟨hV⟩, ⟨BM⟩, ⟨BR⟩, ⟨HB⟩⟩

/-! ### msg_Kind: function 16 -/
def msg_Kind.f (k : Nat) (l0 : List Int) : Option (Int) := (msg_Get.f k l0).bind fun bt159 => (some bt159.1)
theorem msg_Kind.mono : ∀ a0 k, LeO (msg_Kind.f k a0) (msg_Kind.f (k + 1) a0) := by
 intro a0 k
 unfold msg_Kind.f
 repeat' first
   | (with_reducible exact msg_Get.mono _ _)
   | (with_reducible exact LeO.refl _)
   | (with_reducible exact LeO.none _)
   | (with_reducible refine LeO.ite ?_ ?_)
   | (with_reducible refine LeO.bind ?_ (fun _ => ?_))
   | exact msg_Get.mono _ _
   | exact LeO.none _
   | refine LeO.ite ?_ ?_
   | refine LeO.bind ?_ (fun _ => ?_)
set_option maxHeartbeats 8000000 in
set_option maxRecDepth 100000 in
theorem msg_Kind.calls (k : Nat) (A0 : Option Addr) (c0 : Nat) (l0 : List Int) (r : Int) (w : World) (hG : GH w) (hr0 : Kd.C (Kd.int .u32) w A0 l0.length l0) (hc0 : l0.length ≤ c0) (h : msg_Kind.f k l0 = some r) :
  Calls Tryd.prog 16 #[.slice A0 l0.length c0] w fun e w' => e = .returned (.int .u32 r) ∧ Below w.heap.size w w' := by
 have hu24 := Tryd.underlying24
 have HR0 := Aside0.mk hr0
 have HC0 := Aside0.mk hc0
 clear hr0 hc0
 have HB := Aside0.mk (Below.refl w.heap.size w)
 have H : ((msg_Get.f k l0).bind fun bt159 => (some bt159.1)) = some r := h
 clear h
 replace H := Option.bind_eq_some_iff.mp H
 obtain ⟨⟨t159, t160, t161, t162, t163, t164, t165, t166⟩, A20, H⟩ := H
 replace H : (some t159) = some r := H
 have A2 := Aside0.mk A20
 clear A20
 obtain rfl := Option.some.inj H
 go_enter Tryd.func16, Tryd.ntmps16
 go_wp2_with (first | ((with_reducible refine gate_callee (f := 14) rfl ?_); refine goesL_ (some 7) rfl rfl Tryd.func14 (by kernel_rfl) rfl #[.slice A0 l0.length c0] rfl (by (try simp only [List.map_toArray, List.map_cons, List.map_nil]); first | done | rfl | (simp only [List.length_drop, List.length_take]; rfl)) ?_; (with_reducible refine (msg_Get.calls (hG := GH.below hG (by repeat (first | (with_reducible first | exact Aside0.out (by assumption) | apply below_alloc | apply pw_below_drewN | apply below_drew1 | refine below_set ?_ (Aside0.out (by assumption))) | exact Aside0.out (by assumption) | apply below_alloc | apply pw_below_drewN | apply below_drew1 | refine below_set ?_ (Aside0.out (by assumption))))) k _ _ l0 t159 t160 t161 t162 t163 t164 t165 t166 _ ?side1 ?side2 A2.out).mono ?_); (case side1 => repeat (first | exact HR0.out | (with_reducible refine Kd.C_alloc ?_ _) | (with_reducible refine Kd.C_drewN ?_ _) | (with_reducible refine Kd.C_drew ?_))); (case side2 => exact HC0.out); rintro e w3 ⟨rfl, hb⟩; refine ⟨_, rfl, ?_⟩; have n0_ := Aside0.mk (below_step (by repeat (first | (with_reducible first | exact HB.out | apply below_alloc | apply pw_below_drewN | apply below_drew1) | exact HB.out)) hb); clear HB; have HB := n0_; clear n0_; (try clear hb); (try clear hb2); (try clear hk); (try clear hi)) | ((with_reducible refine gate_dst (N := 3) rfl ?_); refine box_event ?hg (N := 3) ?hd (cs := vA0) (t := 24) ?hr ?_; (case hd => rfl); (case hg => rfl); (case hr => first | (go_simp; done) | (go_simp; rfl)); intro gb167 hg w4 hbox hb; have n0_ := Aside0.mk (below_step (by repeat (first | (with_reducible first | exact HB.out | apply below_alloc | apply pw_below_drewN | apply below_drew1) | exact HB.out)) hb); have n1_ := Aside0.mk (hbox); have n2_ := Aside0.mk ((by rw [hg]; exact (below_size (by repeat (first | (with_reducible first | exact HB.out | apply below_alloc | apply pw_below_drewN | apply below_drew1) | exact HB.out))) : w.heap.size ≤ gb167)); have n3_ := Aside0.mk ((by rw [hg]; exact (below_size (by repeat (first | (with_reducible first | exact HB.out | apply below_alloc | apply pw_below_drewN | apply below_drew1) | exact HB.out))) : w.heap.size ≤ gb167)); clear HB; have HB := n0_; have BK167 := n1_; have GW167 := n2_; have GE167 := n3_; clear n0_ n1_ n2_ n3_; clear hb hbox hg; have hcz5_0 : w4.cell? ⟨gb167, 0, none⟩ = some (.int .u32 0) := (blk_cell BK167.out 0).trans rfl; have hcz5_1 : w4.cell? ⟨gb167, 1, none⟩ = some (.int .u32 0) := (blk_cell BK167.out 1).trans rfl; have hcz5_2 : w4.cell? ⟨gb167, 2, none⟩ = some (.int .u32 0) := (blk_cell BK167.out 2).trans rfl; have hcz5_3 : w4.cell? ⟨gb167, 3, none⟩ = some (.int .u32 0) := (blk_cell BK167.out 3).trans rfl; have hcz5_4 : w4.cell? ⟨gb167, 4, none⟩ = some (.int .u32 0) := (blk_cell BK167.out 4).trans rfl; have hcz5_5 : w4.cell? ⟨gb167, 5, none⟩ = some (.int .u32 0) := (blk_cell BK167.out 5).trans rfl; have hcz5_6 : w4.cell? ⟨gb167, 6, none⟩ = some (.int .u32 0) := (blk_cell BK167.out 6).trans rfl; have hfz5_0 := blk_frozen BK167.out 0; have hfz5_1 := blk_frozen BK167.out 1; have hfz5_2 := blk_frozen BK167.out 2; have hfz5_3 := blk_frozen BK167.out 3; have hfz5_4 := blk_frozen BK167.out 4; have hfz5_5 := blk_frozen BK167.out 5; have hfz5_6 := blk_frozen BK167.out 6))
 go_ret
 exact ⟨by first | rfl | (simp [errW_none, errW_some] <;> rfl) | (simp [*, errW_none, errW_some] <;> rfl), by repeat (first | (with_reducible first | exact HB.out | apply below_alloc | apply pw_below_drewN | apply below_drew1 | refine below_set ?_ GE167.out) | exact HB.out)⟩

end Go.Proofs.YtkmgfleoondblaaDoor.PMsgSpoilt
