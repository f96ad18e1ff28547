-- Written for this claim by wip/tools/myprint.py (print.py's forms; proofs of the faked functions by hand).
import Derived.Test.YtmmpiblmggkghaaPLogKeepsx1
import Derived.Test.YtmmpiblmggkghaaPLogKeepsx0
import Derived.Test.YtmmpiblmggkghaaPLogKeepsx2
import Derived.Test.YtmmpiblmggkghaaPLogKeepsx3
import Derived.Test.YtmmpiblmggkghaaPLogKeepsx4
namespace Go.Proofs.Ytmmpiblmggkghaa.PLogKeeps
open Go.RowKit Go.Proofs.YtmmpiblmggkghaaW.PrintWords Go.Proofs.YtmmpiblmggkghaaW.PrintLast Go.Proofs.YtmmpiblmggkghaaW.PrintMore
attribute [local go_sem] max2_int min2_int max_two min_two max_three min_three max_four min_four   -- for this text's walks alone
set_option linter.unusedVariables false
set_option linter.unusedSimpArgs false

/-! ### chamberlainref19_Fits: function 11 -/
/-- Whether what a mask leaves of two fields is one. -/
def lsame (m : Int) (j : Nat) (x y : Int) : Bool := !lbit m j || x == y
theorem lfit.y0 {m : Int} (h : lbit m 0 = true) : (m % 2 == 1) = true := by unfold lbit at h; simp at h ⊢; omega
theorem lfit.n0 {m : Int} (h : lbit m 0 = false) : (m % 2 == 1) = false := by unfold lbit at h; simp at h ⊢; omega
theorem lfit.y1 {m : Int} (h : lbit m 1 = true) : (m / 2 % 2 == 1) = true := by unfold lbit at h; simp at h ⊢; omega
theorem lfit.n1 {m : Int} (h : lbit m 1 = false) : (m / 2 % 2 == 1) = false := by unfold lbit at h; simp at h ⊢; omega
theorem lfit.y2 {m : Int} (h : lbit m 2 = true) : (m / 4 % 2 == 1) = true := by unfold lbit at h; simp at h ⊢; omega
theorem lfit.n2 {m : Int} (h : lbit m 2 = false) : (m / 4 % 2 == 1) = false := by unfold lbit at h; simp at h ⊢; omega
theorem lfit.y3 {m : Int} (h : lbit m 3 = true) : (m / 8 % 2 == 1) = true := by unfold lbit at h; simp at h ⊢; omega
theorem lfit.n3 {m : Int} (h : lbit m 3 = false) : (m / 8 % 2 == 1) = false := by unfold lbit at h; simp at h ⊢; omega
theorem lfit.y4 {m : Int} (h : lbit m 4 = true) : (m / 16 % 2 == 1) = true := by unfold lbit at h; simp at h ⊢; omega
theorem lfit.n4 {m : Int} (h : lbit m 4 = false) : (m / 16 % 2 == 1) = false := by unfold lbit at h; simp at h ⊢; omega
theorem lfit.y5 {m : Int} (h : lbit m 5 = true) : (m / 32 % 2 == 1) = true := by unfold lbit at h; simp at h ⊢; omega
theorem lfit.n5 {m : Int} (h : lbit m 5 = false) : (m / 32 % 2 == 1) = false := by unfold lbit at h; simp at h ⊢; omega
theorem lfit.y6 {m : Int} (h : lbit m 6 = true) : (m / 64 % 2 == 0) = false := by unfold lbit at h; simp at h ⊢; omega
theorem lfit.n6 {m : Int} (h : lbit m 6 = false) : (m / 64 % 2 == 0) = true := by unfold lbit at h; simp at h ⊢; omega
theorem lfit.y7 {m : Int} (h : lbit m 7 = true) : (m / 128 % 2 == 0) = false := by unfold lbit at h; simp at h ⊢; omega
theorem lfit.n7 {m : Int} (h : lbit m 7 = false) : (m / 128 % 2 == 0) = true := by unfold lbit at h; simp at h ⊢; omega
theorem lfit.y8 {m : Int} (h : lbit m 8 = true) : (m / 256 % 2 == 0) = false := by unfold lbit at h; simp at h ⊢; omega
theorem lfit.n8 {m : Int} (h : lbit m 8 = false) : (m / 256 % 2 == 0) = true := by unfold lbit at h; simp at h ⊢; omega
/-- Whether what a mask leaves of two events is one. -/
def lfits (m x0 x1 x2 x3 x4 x5 x6 x7 x8 y0 y1 y2 y3 y4 y5 y6 y7 y8 : Int) : Bool := lsame m 0 x0 y0 && lsame m 1 x1 y1 && lsame m 2 x2 y2 && lsame m 3 x3 y3 && lsame m 4 x4 y4 && lsame m 5 x5 y5 && lsame m 6 x6 y6 && lsame m 7 x7 y7 && lsame m 8 x8 y8
theorem lfit.no0 (m x0 x1 x2 x3 x4 x5 x6 x7 x8 y0 y1 y2 y3 y4 y5 y6 y7 y8 : Int) (h : lsame m 0 x0 y0 = false) : lfits m x0 x1 x2 x3 x4 x5 x6 x7 x8 y0 y1 y2 y3 y4 y5 y6 y7 y8 = false := by unfold lfits; rw [h]; simp
theorem lfit.no1 (m x0 x1 x2 x3 x4 x5 x6 x7 x8 y0 y1 y2 y3 y4 y5 y6 y7 y8 : Int) (h : lsame m 1 x1 y1 = false) : lfits m x0 x1 x2 x3 x4 x5 x6 x7 x8 y0 y1 y2 y3 y4 y5 y6 y7 y8 = false := by unfold lfits; rw [h]; simp
theorem lfit.no2 (m x0 x1 x2 x3 x4 x5 x6 x7 x8 y0 y1 y2 y3 y4 y5 y6 y7 y8 : Int) (h : lsame m 2 x2 y2 = false) : lfits m x0 x1 x2 x3 x4 x5 x6 x7 x8 y0 y1 y2 y3 y4 y5 y6 y7 y8 = false := by unfold lfits; rw [h]; simp
theorem lfit.no3 (m x0 x1 x2 x3 x4 x5 x6 x7 x8 y0 y1 y2 y3 y4 y5 y6 y7 y8 : Int) (h : lsame m 3 x3 y3 = false) : lfits m x0 x1 x2 x3 x4 x5 x6 x7 x8 y0 y1 y2 y3 y4 y5 y6 y7 y8 = false := by unfold lfits; rw [h]; simp
theorem lfit.no4 (m x0 x1 x2 x3 x4 x5 x6 x7 x8 y0 y1 y2 y3 y4 y5 y6 y7 y8 : Int) (h : lsame m 4 x4 y4 = false) : lfits m x0 x1 x2 x3 x4 x5 x6 x7 x8 y0 y1 y2 y3 y4 y5 y6 y7 y8 = false := by unfold lfits; rw [h]; simp
theorem lfit.no5 (m x0 x1 x2 x3 x4 x5 x6 x7 x8 y0 y1 y2 y3 y4 y5 y6 y7 y8 : Int) (h : lsame m 5 x5 y5 = false) : lfits m x0 x1 x2 x3 x4 x5 x6 x7 x8 y0 y1 y2 y3 y4 y5 y6 y7 y8 = false := by unfold lfits; rw [h]; simp
theorem lfit.no6 (m x0 x1 x2 x3 x4 x5 x6 x7 x8 y0 y1 y2 y3 y4 y5 y6 y7 y8 : Int) (h : lsame m 6 x6 y6 = false) : lfits m x0 x1 x2 x3 x4 x5 x6 x7 x8 y0 y1 y2 y3 y4 y5 y6 y7 y8 = false := by unfold lfits; rw [h]; simp
theorem lfit.no7 (m x0 x1 x2 x3 x4 x5 x6 x7 x8 y0 y1 y2 y3 y4 y5 y6 y7 y8 : Int) (h : lsame m 7 x7 y7 = false) : lfits m x0 x1 x2 x3 x4 x5 x6 x7 x8 y0 y1 y2 y3 y4 y5 y6 y7 y8 = false := by unfold lfits; rw [h]; simp
theorem lfit.no8 (m x0 x1 x2 x3 x4 x5 x6 x7 x8 y0 y1 y2 y3 y4 y5 y6 y7 y8 : Int) (h : lsame m 8 x8 y8 = false) : lfits m x0 x1 x2 x3 x4 x5 x6 x7 x8 y0 y1 y2 y3 y4 y5 y6 y7 y8 = false := by unfold lfits; rw [h]; simp
def chamberlainref19_Fits.f (a0_0 : Int) (a0_1 : Int) (a0_2 : Int) (a0_3 : Int) (a0_4 : Int) (a0_5 : Int) (a0_6 : Int) (a0_7 : Int) (a0_8 : Int) (_a0_9 : Int) (a1_0 : Int) (a1_1 : Int) (a1_2 : Int) (a1_3 : Int) (a1_4 : Int) (a1_5 : Int) (a1_6 : Int) (a1_7 : Int) (a1_8 : Int) (_a1_9 : Int) (a2 : Int) : Option (Bool) := if 0 ≤ a2 ∧ a2 < 512 then some (lfits a2 a0_0 a0_1 a0_2 a0_3 a0_4 a0_5 a0_6 a0_7 a0_8 a1_0 a1_1 a1_2 a1_3 a1_4 a1_5 a1_6 a1_7 a1_8) else none
theorem lfit.ret {a b : Bool} (h : a = b) : Ending.returned (.bool a) = .returned (.bool b) := by rw [h]
set_option maxHeartbeats 8000000 in
set_option maxRecDepth 100000 in
theorem chamberlainref19_Fits.calls (a0_0 : Int) (a0_1 : Int) (a0_2 : Int) (a0_3 : Int) (a0_4 : Int) (a0_5 : Int) (a0_6 : Int) (a0_7 : Int) (a0_8 : Int) (a0_9 : Int) (a1_0 : Int) (a1_1 : Int) (a1_2 : Int) (a1_3 : Int) (a1_4 : Int) (a1_5 : Int) (a1_6 : Int) (a1_7 : Int) (a1_8 : Int) (a1_9 : Int) (a2 : Int) (r : Bool) (w : World) (h : chamberlainref19_Fits.f a0_0 a0_1 a0_2 a0_3 a0_4 a0_5 a0_6 a0_7 a0_8 a0_9 a1_0 a1_1 a1_2 a1_3 a1_4 a1_5 a1_6 a1_7 a1_8 a1_9 a2 = some r) :
    Calls Try.prog 11 #[.agg #[.int .i64 a0_0, .int .i64 a0_1, .int .i64 a0_2, .int .u32 a0_3, .int .u32 a0_4, .int .u32 a0_5, .int .u32 a0_6, .int .u32 a0_7, .int .u32 a0_8, .int .u32 a0_9], .agg #[.int .i64 a1_0, .int .i64 a1_1, .int .i64 a1_2, .int .u32 a1_3, .int .u32 a1_4, .int .u32 a1_5, .int .u32 a1_6, .int .u32 a1_7, .int .u32 a1_8, .int .u32 a1_9], .int .i64 a2] w fun e w' => e = .returned (.bool r) ∧ Below w.heap.size w w' := by
  unfold chamberlainref19_Fits.f at h
  by_cases hm : 0 ≤ a2 ∧ a2 < 512
  rotate_left
  · rw [if_neg hm] at h; cases h
  rw [if_pos hm] at h
  obtain ⟨h0, h1⟩ := hm
  obtain rfl := Option.some.inj h
  clear h
  have hB := Aside0.mk (below_alloc (below_alloc (Below.refl w.heap.size w) (.cells #[.int .i64 a0_0, .int .i64 a0_1, .int .i64 a0_2, .int .u32 a0_3, .int .u32 a0_4, .int .u32 a0_5, .int .u32 a0_6, .int .u32 a0_7, .int .u32 a0_8, .int .u32 a0_9] 25)) (.cells #[.int .i64 a1_0, .int .i64 a1_1, .int .i64 a1_2, .int .u32 a1_3, .int .u32 a1_4, .int .u32 a1_5, .int .u32 a1_6, .int .u32 a1_7, .int .u32 a1_8, .int .u32 a1_9] 25))
  go_enter Try.func11, Try.ntmps11
  go_upto_region 1 with (fail)
  go_cut [42] (fun v wc => ∃ b : Bool, v = .bool b ∧ wc = ((w.alloc (.cells #[.int .i64 a0_0, .int .i64 a0_1, .int .i64 a0_2, .int .u32 a0_3, .int .u32 a0_4, .int .u32 a0_5, .int .u32 a0_6, .int .u32 a0_7, .int .u32 a0_8, .int .u32 a0_9] 25)).alloc (.cells #[.int .i64 a1_0, .int .i64 a1_1, .int .i64 a1_2, .int .u32 a1_3, .int .u32 a1_4, .int .u32 a1_5, .int .u32 a1_6, .int .u32 a1_7, .int .u32 a1_8, .int .u32 a1_9] 25)) ∧ Aside0 (b = true → lfits a2 a0_0 a0_1 a0_2 a0_3 a0_4 a0_5 a0_6 a0_7 a0_8 a1_0 a1_1 a1_2 a1_3 a1_4 a1_5 a1_6 a1_7 a1_8 = false) ∧ Aside0 (b = false → lsame a2 0 a0_0 a1_0 = true ∧ lsame a2 1 a0_1 a1_1 = true ∧ lsame a2 2 a0_2 a1_2 = true))
  case first =>
    cases hb0 : lbit a2 0 with
    | false =>
      have q0 : (a2 % 2 == 1) = false := lfit.n0 hb0
      cases hb1 : lbit a2 1 with
      | false =>
        have q1 : (a2 / 2 % 2 == 1) = false := lfit.n1 hb1
        cases hb2 : lbit a2 2 with
        | false =>
          have q2 : (a2 / 4 % 2 == 1) = false := lfit.n2 hb2
          go_wp2
          go_meet
          case rel => exact ⟨false, rfl, rfl, ⟨fun h => by cases h⟩, ⟨fun _ => ⟨by unfold lsame; rw [hb0]; first | rfl | (rw [HX0.out]; simp), by unfold lsame; rw [hb1]; first | rfl | (rw [HX1.out]; simp), by unfold lsame; rw [hb2]; first | rfl | (rw [HX2.out]; simp)⟩⟩⟩
        | true =>
          have q2 : (a2 / 4 % 2 == 1) = true := lfit.y2 hb2
          by_cases hx2 : a0_2 = a1_2
          · have e2 : (a0_2 == a1_2) = true := beq_iff_eq.2 hx2
            have d2 : (a0_2 != a1_2) = false := by unfold bne; rw [e2]; rfl
            have HX2 := Aside0.mk hx2
            clear hx2
            go_wp2
            go_meet
            case rel => exact ⟨false, rfl, rfl, ⟨fun h => by cases h⟩, ⟨fun _ => ⟨by unfold lsame; rw [hb0]; first | rfl | (rw [HX0.out]; simp), by unfold lsame; rw [hb1]; first | rfl | (rw [HX1.out]; simp), by unfold lsame; rw [hb2]; first | rfl | (rw [HX2.out]; simp)⟩⟩⟩
          · have e2 : (a0_2 == a1_2) = false := beq_eq_false_iff_ne.2 hx2
            have d2 : (a0_2 != a1_2) = true := by unfold bne; rw [e2]; rfl
            have L2 : lsame a2 2 a0_2 a1_2 = false := by unfold lsame; rw [hb2, e2]; rfl
            have HL := Aside0.mk (lfit.no2 a2 a0_0 a0_1 a0_2 a0_3 a0_4 a0_5 a0_6 a0_7 a0_8 a1_0 a1_1 a1_2 a1_3 a1_4 a1_5 a1_6 a1_7 a1_8 L2)
            clear hx2 L2
            go_wp2
            go_meet
            case rel => exact ⟨true, rfl, rfl, ⟨fun _ => HL.out⟩, ⟨fun h => by cases h⟩⟩
      | true =>
        have q1 : (a2 / 2 % 2 == 1) = true := lfit.y1 hb1
        by_cases hx1 : a0_1 = a1_1
        · have e1 : (a0_1 == a1_1) = true := beq_iff_eq.2 hx1
          have d1 : (a0_1 != a1_1) = false := by unfold bne; rw [e1]; rfl
          have HX1 := Aside0.mk hx1
          clear hx1
          cases hb2 : lbit a2 2 with
          | false =>
            have q2 : (a2 / 4 % 2 == 1) = false := lfit.n2 hb2
            go_wp2
            go_meet
            case rel => exact ⟨false, rfl, rfl, ⟨fun h => by cases h⟩, ⟨fun _ => ⟨by unfold lsame; rw [hb0]; first | rfl | (rw [HX0.out]; simp), by unfold lsame; rw [hb1]; first | rfl | (rw [HX1.out]; simp), by unfold lsame; rw [hb2]; first | rfl | (rw [HX2.out]; simp)⟩⟩⟩
          | true =>
            have q2 : (a2 / 4 % 2 == 1) = true := lfit.y2 hb2
            by_cases hx2 : a0_2 = a1_2
            · have e2 : (a0_2 == a1_2) = true := beq_iff_eq.2 hx2
              have d2 : (a0_2 != a1_2) = false := by unfold bne; rw [e2]; rfl
              have HX2 := Aside0.mk hx2
              clear hx2
              go_wp2
              go_meet
              case rel => exact ⟨false, rfl, rfl, ⟨fun h => by cases h⟩, ⟨fun _ => ⟨by unfold lsame; rw [hb0]; first | rfl | (rw [HX0.out]; simp), by unfold lsame; rw [hb1]; first | rfl | (rw [HX1.out]; simp), by unfold lsame; rw [hb2]; first | rfl | (rw [HX2.out]; simp)⟩⟩⟩
            · have e2 : (a0_2 == a1_2) = false := beq_eq_false_iff_ne.2 hx2
              have d2 : (a0_2 != a1_2) = true := by unfold bne; rw [e2]; rfl
              have L2 : lsame a2 2 a0_2 a1_2 = false := by unfold lsame; rw [hb2, e2]; rfl
              have HL := Aside0.mk (lfit.no2 a2 a0_0 a0_1 a0_2 a0_3 a0_4 a0_5 a0_6 a0_7 a0_8 a1_0 a1_1 a1_2 a1_3 a1_4 a1_5 a1_6 a1_7 a1_8 L2)
              clear hx2 L2
              go_wp2
              go_meet
              case rel => exact ⟨true, rfl, rfl, ⟨fun _ => HL.out⟩, ⟨fun h => by cases h⟩⟩
        · have e1 : (a0_1 == a1_1) = false := beq_eq_false_iff_ne.2 hx1
          have d1 : (a0_1 != a1_1) = true := by unfold bne; rw [e1]; rfl
          have L1 : lsame a2 1 a0_1 a1_1 = false := by unfold lsame; rw [hb1, e1]; rfl
          have HL := Aside0.mk (lfit.no1 a2 a0_0 a0_1 a0_2 a0_3 a0_4 a0_5 a0_6 a0_7 a0_8 a1_0 a1_1 a1_2 a1_3 a1_4 a1_5 a1_6 a1_7 a1_8 L1)
          clear hx1 L1
          go_wp2
          go_meet
          case rel => exact ⟨true, rfl, rfl, ⟨fun _ => HL.out⟩, ⟨fun h => by cases h⟩⟩
    | true =>
      have q0 : (a2 % 2 == 1) = true := lfit.y0 hb0
      by_cases hx0 : a0_0 = a1_0
      · have e0 : (a0_0 == a1_0) = true := beq_iff_eq.2 hx0
        have d0 : (a0_0 != a1_0) = false := by unfold bne; rw [e0]; rfl
        have HX0 := Aside0.mk hx0
        clear hx0
        cases hb1 : lbit a2 1 with
        | false =>
          have q1 : (a2 / 2 % 2 == 1) = false := lfit.n1 hb1
          cases hb2 : lbit a2 2 with
          | false =>
            have q2 : (a2 / 4 % 2 == 1) = false := lfit.n2 hb2
            go_wp2
            go_meet
            case rel => exact ⟨false, rfl, rfl, ⟨fun h => by cases h⟩, ⟨fun _ => ⟨by unfold lsame; rw [hb0]; first | rfl | (rw [HX0.out]; simp), by unfold lsame; rw [hb1]; first | rfl | (rw [HX1.out]; simp), by unfold lsame; rw [hb2]; first | rfl | (rw [HX2.out]; simp)⟩⟩⟩
          | true =>
            have q2 : (a2 / 4 % 2 == 1) = true := lfit.y2 hb2
            by_cases hx2 : a0_2 = a1_2
            · have e2 : (a0_2 == a1_2) = true := beq_iff_eq.2 hx2
              have d2 : (a0_2 != a1_2) = false := by unfold bne; rw [e2]; rfl
              have HX2 := Aside0.mk hx2
              clear hx2
              go_wp2
              go_meet
              case rel => exact ⟨false, rfl, rfl, ⟨fun h => by cases h⟩, ⟨fun _ => ⟨by unfold lsame; rw [hb0]; first | rfl | (rw [HX0.out]; simp), by unfold lsame; rw [hb1]; first | rfl | (rw [HX1.out]; simp), by unfold lsame; rw [hb2]; first | rfl | (rw [HX2.out]; simp)⟩⟩⟩
            · have e2 : (a0_2 == a1_2) = false := beq_eq_false_iff_ne.2 hx2
              have d2 : (a0_2 != a1_2) = true := by unfold bne; rw [e2]; rfl
              have L2 : lsame a2 2 a0_2 a1_2 = false := by unfold lsame; rw [hb2, e2]; rfl
              have HL := Aside0.mk (lfit.no2 a2 a0_0 a0_1 a0_2 a0_3 a0_4 a0_5 a0_6 a0_7 a0_8 a1_0 a1_1 a1_2 a1_3 a1_4 a1_5 a1_6 a1_7 a1_8 L2)
              clear hx2 L2
              go_wp2
              go_meet
              case rel => exact ⟨true, rfl, rfl, ⟨fun _ => HL.out⟩, ⟨fun h => by cases h⟩⟩
        | true =>
          have q1 : (a2 / 2 % 2 == 1) = true := lfit.y1 hb1
          by_cases hx1 : a0_1 = a1_1
          · have e1 : (a0_1 == a1_1) = true := beq_iff_eq.2 hx1
            have d1 : (a0_1 != a1_1) = false := by unfold bne; rw [e1]; rfl
            have HX1 := Aside0.mk hx1
            clear hx1
            cases hb2 : lbit a2 2 with
            | false =>
              have q2 : (a2 / 4 % 2 == 1) = false := lfit.n2 hb2
              go_wp2
              go_meet
              case rel => exact ⟨false, rfl, rfl, ⟨fun h => by cases h⟩, ⟨fun _ => ⟨by unfold lsame; rw [hb0]; first | rfl | (rw [HX0.out]; simp), by unfold lsame; rw [hb1]; first | rfl | (rw [HX1.out]; simp), by unfold lsame; rw [hb2]; first | rfl | (rw [HX2.out]; simp)⟩⟩⟩
            | true =>
              have q2 : (a2 / 4 % 2 == 1) = true := lfit.y2 hb2
              by_cases hx2 : a0_2 = a1_2
              · have e2 : (a0_2 == a1_2) = true := beq_iff_eq.2 hx2
                have d2 : (a0_2 != a1_2) = false := by unfold bne; rw [e2]; rfl
                have HX2 := Aside0.mk hx2
                clear hx2
                go_wp2
                go_meet
                case rel => exact ⟨false, rfl, rfl, ⟨fun h => by cases h⟩, ⟨fun _ => ⟨by unfold lsame; rw [hb0]; first | rfl | (rw [HX0.out]; simp), by unfold lsame; rw [hb1]; first | rfl | (rw [HX1.out]; simp), by unfold lsame; rw [hb2]; first | rfl | (rw [HX2.out]; simp)⟩⟩⟩
              · have e2 : (a0_2 == a1_2) = false := beq_eq_false_iff_ne.2 hx2
                have d2 : (a0_2 != a1_2) = true := by unfold bne; rw [e2]; rfl
                have L2 : lsame a2 2 a0_2 a1_2 = false := by unfold lsame; rw [hb2, e2]; rfl
                have HL := Aside0.mk (lfit.no2 a2 a0_0 a0_1 a0_2 a0_3 a0_4 a0_5 a0_6 a0_7 a0_8 a1_0 a1_1 a1_2 a1_3 a1_4 a1_5 a1_6 a1_7 a1_8 L2)
                clear hx2 L2
                go_wp2
                go_meet
                case rel => exact ⟨true, rfl, rfl, ⟨fun _ => HL.out⟩, ⟨fun h => by cases h⟩⟩
          · have e1 : (a0_1 == a1_1) = false := beq_eq_false_iff_ne.2 hx1
            have d1 : (a0_1 != a1_1) = true := by unfold bne; rw [e1]; rfl
            have L1 : lsame a2 1 a0_1 a1_1 = false := by unfold lsame; rw [hb1, e1]; rfl
            have HL := Aside0.mk (lfit.no1 a2 a0_0 a0_1 a0_2 a0_3 a0_4 a0_5 a0_6 a0_7 a0_8 a1_0 a1_1 a1_2 a1_3 a1_4 a1_5 a1_6 a1_7 a1_8 L1)
            clear hx1 L1
            go_wp2
            go_meet
            case rel => exact ⟨true, rfl, rfl, ⟨fun _ => HL.out⟩, ⟨fun h => by cases h⟩⟩
      · have e0 : (a0_0 == a1_0) = false := beq_eq_false_iff_ne.2 hx0
        have d0 : (a0_0 != a1_0) = true := by unfold bne; rw [e0]; rfl
        have L0 : lsame a2 0 a0_0 a1_0 = false := by unfold lsame; rw [hb0, e0]; rfl
        have HL := Aside0.mk (lfit.no0 a2 a0_0 a0_1 a0_2 a0_3 a0_4 a0_5 a0_6 a0_7 a0_8 a1_0 a1_1 a1_2 a1_3 a1_4 a1_5 a1_6 a1_7 a1_8 L0)
        clear hx0 L0
        go_wp2
        go_meet
        case rel => exact ⟨true, rfl, rfl, ⟨fun _ => HL.out⟩, ⟨fun h => by cases h⟩⟩
  case rest =>
    obtain ⟨b, rfl, rfl, T, L⟩ := hcut
    cases b with
    | true =>
      go_wp2
      go_ret
      exact ⟨lfit.ret (T.out (by trivial)).symm, hB.out⟩
    | false =>
      obtain ⟨L0, L1, L2⟩ := L.out rfl
      have HL0 := Aside0.mk L0
      have HL1 := Aside0.mk L1
      have HL2 := Aside0.mk L2
      clear T L L0 L1 L2
      go_upto_region 3 with (fail)
      go_cut [79] (fun v wc => ∃ b : Bool, v = .bool b ∧ wc = ((w.alloc (.cells #[.int .i64 a0_0, .int .i64 a0_1, .int .i64 a0_2, .int .u32 a0_3, .int .u32 a0_4, .int .u32 a0_5, .int .u32 a0_6, .int .u32 a0_7, .int .u32 a0_8, .int .u32 a0_9] 25)).alloc (.cells #[.int .i64 a1_0, .int .i64 a1_1, .int .i64 a1_2, .int .u32 a1_3, .int .u32 a1_4, .int .u32 a1_5, .int .u32 a1_6, .int .u32 a1_7, .int .u32 a1_8, .int .u32 a1_9] 25)) ∧ Aside0 (b = true → lfits a2 a0_0 a0_1 a0_2 a0_3 a0_4 a0_5 a0_6 a0_7 a0_8 a1_0 a1_1 a1_2 a1_3 a1_4 a1_5 a1_6 a1_7 a1_8 = false) ∧ Aside0 (b = false → lsame a2 3 a0_3 a1_3 = true ∧ lsame a2 4 a0_4 a1_4 = true ∧ lsame a2 5 a0_5 a1_5 = true))
      case first =>
        cases hb3 : lbit a2 3 with
        | false =>
          have q3 : (a2 / 8 % 2 == 1) = false := lfit.n3 hb3
          cases hb4 : lbit a2 4 with
          | false =>
            have q4 : (a2 / 16 % 2 == 1) = false := lfit.n4 hb4
            cases hb5 : lbit a2 5 with
            | false =>
              have q5 : (a2 / 32 % 2 == 1) = false := lfit.n5 hb5
              go_wp2
              go_meet
              case rel => exact ⟨false, rfl, rfl, ⟨fun h => by cases h⟩, ⟨fun _ => ⟨by unfold lsame; rw [hb3]; first | rfl | (rw [HX3.out]; simp), by unfold lsame; rw [hb4]; first | rfl | (rw [HX4.out]; simp), by unfold lsame; rw [hb5]; first | rfl | (rw [HX5.out]; simp)⟩⟩⟩
            | true =>
              have q5 : (a2 / 32 % 2 == 1) = true := lfit.y5 hb5
              by_cases hx5 : a0_5 = a1_5
              · have e5 : (a0_5 == a1_5) = true := beq_iff_eq.2 hx5
                have d5 : (a0_5 != a1_5) = false := by unfold bne; rw [e5]; rfl
                have HX5 := Aside0.mk hx5
                clear hx5
                go_wp2
                go_meet
                case rel => exact ⟨false, rfl, rfl, ⟨fun h => by cases h⟩, ⟨fun _ => ⟨by unfold lsame; rw [hb3]; first | rfl | (rw [HX3.out]; simp), by unfold lsame; rw [hb4]; first | rfl | (rw [HX4.out]; simp), by unfold lsame; rw [hb5]; first | rfl | (rw [HX5.out]; simp)⟩⟩⟩
              · have e5 : (a0_5 == a1_5) = false := beq_eq_false_iff_ne.2 hx5
                have d5 : (a0_5 != a1_5) = true := by unfold bne; rw [e5]; rfl
                have L5 : lsame a2 5 a0_5 a1_5 = false := by unfold lsame; rw [hb5, e5]; rfl
                have HL := Aside0.mk (lfit.no5 a2 a0_0 a0_1 a0_2 a0_3 a0_4 a0_5 a0_6 a0_7 a0_8 a1_0 a1_1 a1_2 a1_3 a1_4 a1_5 a1_6 a1_7 a1_8 L5)
                clear hx5 L5
                go_wp2
                go_meet
                case rel => exact ⟨true, rfl, rfl, ⟨fun _ => HL.out⟩, ⟨fun h => by cases h⟩⟩
          | true =>
            have q4 : (a2 / 16 % 2 == 1) = true := lfit.y4 hb4
            by_cases hx4 : a0_4 = a1_4
            · have e4 : (a0_4 == a1_4) = true := beq_iff_eq.2 hx4
              have d4 : (a0_4 != a1_4) = false := by unfold bne; rw [e4]; rfl
              have HX4 := Aside0.mk hx4
              clear hx4
              cases hb5 : lbit a2 5 with
              | false =>
                have q5 : (a2 / 32 % 2 == 1) = false := lfit.n5 hb5
                go_wp2
                go_meet
                case rel => exact ⟨false, rfl, rfl, ⟨fun h => by cases h⟩, ⟨fun _ => ⟨by unfold lsame; rw [hb3]; first | rfl | (rw [HX3.out]; simp), by unfold lsame; rw [hb4]; first | rfl | (rw [HX4.out]; simp), by unfold lsame; rw [hb5]; first | rfl | (rw [HX5.out]; simp)⟩⟩⟩
              | true =>
                have q5 : (a2 / 32 % 2 == 1) = true := lfit.y5 hb5
                by_cases hx5 : a0_5 = a1_5
                · have e5 : (a0_5 == a1_5) = true := beq_iff_eq.2 hx5
                  have d5 : (a0_5 != a1_5) = false := by unfold bne; rw [e5]; rfl
                  have HX5 := Aside0.mk hx5
                  clear hx5
                  go_wp2
                  go_meet
                  case rel => exact ⟨false, rfl, rfl, ⟨fun h => by cases h⟩, ⟨fun _ => ⟨by unfold lsame; rw [hb3]; first | rfl | (rw [HX3.out]; simp), by unfold lsame; rw [hb4]; first | rfl | (rw [HX4.out]; simp), by unfold lsame; rw [hb5]; first | rfl | (rw [HX5.out]; simp)⟩⟩⟩
                · have e5 : (a0_5 == a1_5) = false := beq_eq_false_iff_ne.2 hx5
                  have d5 : (a0_5 != a1_5) = true := by unfold bne; rw [e5]; rfl
                  have L5 : lsame a2 5 a0_5 a1_5 = false := by unfold lsame; rw [hb5, e5]; rfl
                  have HL := Aside0.mk (lfit.no5 a2 a0_0 a0_1 a0_2 a0_3 a0_4 a0_5 a0_6 a0_7 a0_8 a1_0 a1_1 a1_2 a1_3 a1_4 a1_5 a1_6 a1_7 a1_8 L5)
                  clear hx5 L5
                  go_wp2
                  go_meet
                  case rel => exact ⟨true, rfl, rfl, ⟨fun _ => HL.out⟩, ⟨fun h => by cases h⟩⟩
            · have e4 : (a0_4 == a1_4) = false := beq_eq_false_iff_ne.2 hx4
              have d4 : (a0_4 != a1_4) = true := by unfold bne; rw [e4]; rfl
              have L4 : lsame a2 4 a0_4 a1_4 = false := by unfold lsame; rw [hb4, e4]; rfl
              have HL := Aside0.mk (lfit.no4 a2 a0_0 a0_1 a0_2 a0_3 a0_4 a0_5 a0_6 a0_7 a0_8 a1_0 a1_1 a1_2 a1_3 a1_4 a1_5 a1_6 a1_7 a1_8 L4)
              clear hx4 L4
              go_wp2
              go_meet
              case rel => exact ⟨true, rfl, rfl, ⟨fun _ => HL.out⟩, ⟨fun h => by cases h⟩⟩
        | true =>
          have q3 : (a2 / 8 % 2 == 1) = true := lfit.y3 hb3
          by_cases hx3 : a0_3 = a1_3
          · have e3 : (a0_3 == a1_3) = true := beq_iff_eq.2 hx3
            have d3 : (a0_3 != a1_3) = false := by unfold bne; rw [e3]; rfl
            have HX3 := Aside0.mk hx3
            clear hx3
            cases hb4 : lbit a2 4 with
            | false =>
              have q4 : (a2 / 16 % 2 == 1) = false := lfit.n4 hb4
              cases hb5 : lbit a2 5 with
              | false =>
                have q5 : (a2 / 32 % 2 == 1) = false := lfit.n5 hb5
                go_wp2
                go_meet
                case rel => exact ⟨false, rfl, rfl, ⟨fun h => by cases h⟩, ⟨fun _ => ⟨by unfold lsame; rw [hb3]; first | rfl | (rw [HX3.out]; simp), by unfold lsame; rw [hb4]; first | rfl | (rw [HX4.out]; simp), by unfold lsame; rw [hb5]; first | rfl | (rw [HX5.out]; simp)⟩⟩⟩
              | true =>
                have q5 : (a2 / 32 % 2 == 1) = true := lfit.y5 hb5
                by_cases hx5 : a0_5 = a1_5
                · have e5 : (a0_5 == a1_5) = true := beq_iff_eq.2 hx5
                  have d5 : (a0_5 != a1_5) = false := by unfold bne; rw [e5]; rfl
                  have HX5 := Aside0.mk hx5
                  clear hx5
                  go_wp2
                  go_meet
                  case rel => exact ⟨false, rfl, rfl, ⟨fun h => by cases h⟩, ⟨fun _ => ⟨by unfold lsame; rw [hb3]; first | rfl | (rw [HX3.out]; simp), by unfold lsame; rw [hb4]; first | rfl | (rw [HX4.out]; simp), by unfold lsame; rw [hb5]; first | rfl | (rw [HX5.out]; simp)⟩⟩⟩
                · have e5 : (a0_5 == a1_5) = false := beq_eq_false_iff_ne.2 hx5
                  have d5 : (a0_5 != a1_5) = true := by unfold bne; rw [e5]; rfl
                  have L5 : lsame a2 5 a0_5 a1_5 = false := by unfold lsame; rw [hb5, e5]; rfl
                  have HL := Aside0.mk (lfit.no5 a2 a0_0 a0_1 a0_2 a0_3 a0_4 a0_5 a0_6 a0_7 a0_8 a1_0 a1_1 a1_2 a1_3 a1_4 a1_5 a1_6 a1_7 a1_8 L5)
                  clear hx5 L5
                  go_wp2
                  go_meet
                  case rel => exact ⟨true, rfl, rfl, ⟨fun _ => HL.out⟩, ⟨fun h => by cases h⟩⟩
            | true =>
              have q4 : (a2 / 16 % 2 == 1) = true := lfit.y4 hb4
              by_cases hx4 : a0_4 = a1_4
              · have e4 : (a0_4 == a1_4) = true := beq_iff_eq.2 hx4
                have d4 : (a0_4 != a1_4) = false := by unfold bne; rw [e4]; rfl
                have HX4 := Aside0.mk hx4
                clear hx4
                cases hb5 : lbit a2 5 with
                | false =>
                  have q5 : (a2 / 32 % 2 == 1) = false := lfit.n5 hb5
                  go_wp2
                  go_meet
                  case rel => exact ⟨false, rfl, rfl, ⟨fun h => by cases h⟩, ⟨fun _ => ⟨by unfold lsame; rw [hb3]; first | rfl | (rw [HX3.out]; simp), by unfold lsame; rw [hb4]; first | rfl | (rw [HX4.out]; simp), by unfold lsame; rw [hb5]; first | rfl | (rw [HX5.out]; simp)⟩⟩⟩
                | true =>
                  have q5 : (a2 / 32 % 2 == 1) = true := lfit.y5 hb5
                  by_cases hx5 : a0_5 = a1_5
                  · have e5 : (a0_5 == a1_5) = true := beq_iff_eq.2 hx5
                    have d5 : (a0_5 != a1_5) = false := by unfold bne; rw [e5]; rfl
                    have HX5 := Aside0.mk hx5
                    clear hx5
                    go_wp2
                    go_meet
                    case rel => exact ⟨false, rfl, rfl, ⟨fun h => by cases h⟩, ⟨fun _ => ⟨by unfold lsame; rw [hb3]; first | rfl | (rw [HX3.out]; simp), by unfold lsame; rw [hb4]; first | rfl | (rw [HX4.out]; simp), by unfold lsame; rw [hb5]; first | rfl | (rw [HX5.out]; simp)⟩⟩⟩
                  · have e5 : (a0_5 == a1_5) = false := beq_eq_false_iff_ne.2 hx5
                    have d5 : (a0_5 != a1_5) = true := by unfold bne; rw [e5]; rfl
                    have L5 : lsame a2 5 a0_5 a1_5 = false := by unfold lsame; rw [hb5, e5]; rfl
                    have HL := Aside0.mk (lfit.no5 a2 a0_0 a0_1 a0_2 a0_3 a0_4 a0_5 a0_6 a0_7 a0_8 a1_0 a1_1 a1_2 a1_3 a1_4 a1_5 a1_6 a1_7 a1_8 L5)
                    clear hx5 L5
                    go_wp2
                    go_meet
                    case rel => exact ⟨true, rfl, rfl, ⟨fun _ => HL.out⟩, ⟨fun h => by cases h⟩⟩
              · have e4 : (a0_4 == a1_4) = false := beq_eq_false_iff_ne.2 hx4
                have d4 : (a0_4 != a1_4) = true := by unfold bne; rw [e4]; rfl
                have L4 : lsame a2 4 a0_4 a1_4 = false := by unfold lsame; rw [hb4, e4]; rfl
                have HL := Aside0.mk (lfit.no4 a2 a0_0 a0_1 a0_2 a0_3 a0_4 a0_5 a0_6 a0_7 a0_8 a1_0 a1_1 a1_2 a1_3 a1_4 a1_5 a1_6 a1_7 a1_8 L4)
                clear hx4 L4
                go_wp2
                go_meet
                case rel => exact ⟨true, rfl, rfl, ⟨fun _ => HL.out⟩, ⟨fun h => by cases h⟩⟩
          · have e3 : (a0_3 == a1_3) = false := beq_eq_false_iff_ne.2 hx3
            have d3 : (a0_3 != a1_3) = true := by unfold bne; rw [e3]; rfl
            have L3 : lsame a2 3 a0_3 a1_3 = false := by unfold lsame; rw [hb3, e3]; rfl
            have HL := Aside0.mk (lfit.no3 a2 a0_0 a0_1 a0_2 a0_3 a0_4 a0_5 a0_6 a0_7 a0_8 a1_0 a1_1 a1_2 a1_3 a1_4 a1_5 a1_6 a1_7 a1_8 L3)
            clear hx3 L3
            go_wp2
            go_meet
            case rel => exact ⟨true, rfl, rfl, ⟨fun _ => HL.out⟩, ⟨fun h => by cases h⟩⟩
      case rest =>
        obtain ⟨b, rfl, rfl, T, L⟩ := hcut
        cases b with
        | true =>
          go_wp2
          go_ret
          exact ⟨lfit.ret (T.out (by trivial)).symm, hB.out⟩
        | false =>
          obtain ⟨L3, L4, L5⟩ := L.out rfl
          have HL3 := Aside0.mk L3
          have HL4 := Aside0.mk L4
          have HL5 := Aside0.mk L5
          clear T L L3 L4 L5
          cases hb6 : lbit a2 6 with
          | false =>
            have q6 : (a2 / 64 % 2 == 0) = true := lfit.n6 hb6
            cases hb7 : lbit a2 7 with
            | false =>
              have q7 : (a2 / 128 % 2 == 0) = true := lfit.n7 hb7
              cases hb8 : lbit a2 8 with
              | false =>
                have q8 : (a2 / 256 % 2 == 0) = true := lfit.n8 hb8
                go_wp2
                go_ret
                exact ⟨lfit.ret (by unfold lfits; rw [HL0.out, HL1.out, HL2.out, HL3.out, HL4.out, HL5.out, (show lsame a2 6 a0_6 a1_6 = true by unfold lsame; rw [hb6]; first | rfl | (rw [HX6.out]; simp)), (show lsame a2 7 a0_7 a1_7 = true by unfold lsame; rw [hb7]; first | rfl | (rw [HX7.out]; simp)), (show lsame a2 8 a0_8 a1_8 = true by unfold lsame; rw [hb8]; first | rfl | (rw [HX8.out]; simp))]; rfl), hB.out⟩
              | true =>
                have q8 : (a2 / 256 % 2 == 0) = false := lfit.y8 hb8
                by_cases hx8 : a0_8 = a1_8
                · have e8 : (a0_8 == a1_8) = true := beq_iff_eq.2 hx8
                  have d8 : (a0_8 != a1_8) = false := by unfold bne; rw [e8]; rfl
                  have HX8 := Aside0.mk hx8
                  clear hx8
                  go_wp2
                  go_ret
                  exact ⟨lfit.ret (by unfold lfits; rw [HL0.out, HL1.out, HL2.out, HL3.out, HL4.out, HL5.out, (show lsame a2 6 a0_6 a1_6 = true by unfold lsame; rw [hb6]; first | rfl | (rw [HX6.out]; simp)), (show lsame a2 7 a0_7 a1_7 = true by unfold lsame; rw [hb7]; first | rfl | (rw [HX7.out]; simp)), (show lsame a2 8 a0_8 a1_8 = true by unfold lsame; rw [hb8]; first | rfl | (rw [HX8.out]; simp))]; rfl), hB.out⟩
                · have e8 : (a0_8 == a1_8) = false := beq_eq_false_iff_ne.2 hx8
                  have d8 : (a0_8 != a1_8) = true := by unfold bne; rw [e8]; rfl
                  have L8 : lsame a2 8 a0_8 a1_8 = false := by unfold lsame; rw [hb8, e8]; rfl
                  have HL := Aside0.mk (lfit.no8 a2 a0_0 a0_1 a0_2 a0_3 a0_4 a0_5 a0_6 a0_7 a0_8 a1_0 a1_1 a1_2 a1_3 a1_4 a1_5 a1_6 a1_7 a1_8 L8)
                  clear hx8 L8
                  go_wp2
                  go_ret
                  exact ⟨lfit.ret HL.out.symm, hB.out⟩
            | true =>
              have q7 : (a2 / 128 % 2 == 0) = false := lfit.y7 hb7
              by_cases hx7 : a0_7 = a1_7
              · have e7 : (a0_7 == a1_7) = true := beq_iff_eq.2 hx7
                have d7 : (a0_7 != a1_7) = false := by unfold bne; rw [e7]; rfl
                have HX7 := Aside0.mk hx7
                clear hx7
                cases hb8 : lbit a2 8 with
                | false =>
                  have q8 : (a2 / 256 % 2 == 0) = true := lfit.n8 hb8
                  go_wp2
                  go_ret
                  exact ⟨lfit.ret (by unfold lfits; rw [HL0.out, HL1.out, HL2.out, HL3.out, HL4.out, HL5.out, (show lsame a2 6 a0_6 a1_6 = true by unfold lsame; rw [hb6]; first | rfl | (rw [HX6.out]; simp)), (show lsame a2 7 a0_7 a1_7 = true by unfold lsame; rw [hb7]; first | rfl | (rw [HX7.out]; simp)), (show lsame a2 8 a0_8 a1_8 = true by unfold lsame; rw [hb8]; first | rfl | (rw [HX8.out]; simp))]; rfl), hB.out⟩
                | true =>
                  have q8 : (a2 / 256 % 2 == 0) = false := lfit.y8 hb8
                  by_cases hx8 : a0_8 = a1_8
                  · have e8 : (a0_8 == a1_8) = true := beq_iff_eq.2 hx8
                    have d8 : (a0_8 != a1_8) = false := by unfold bne; rw [e8]; rfl
                    have HX8 := Aside0.mk hx8
                    clear hx8
                    go_wp2
                    go_ret
                    exact ⟨lfit.ret (by unfold lfits; rw [HL0.out, HL1.out, HL2.out, HL3.out, HL4.out, HL5.out, (show lsame a2 6 a0_6 a1_6 = true by unfold lsame; rw [hb6]; first | rfl | (rw [HX6.out]; simp)), (show lsame a2 7 a0_7 a1_7 = true by unfold lsame; rw [hb7]; first | rfl | (rw [HX7.out]; simp)), (show lsame a2 8 a0_8 a1_8 = true by unfold lsame; rw [hb8]; first | rfl | (rw [HX8.out]; simp))]; rfl), hB.out⟩
                  · have e8 : (a0_8 == a1_8) = false := beq_eq_false_iff_ne.2 hx8
                    have d8 : (a0_8 != a1_8) = true := by unfold bne; rw [e8]; rfl
                    have L8 : lsame a2 8 a0_8 a1_8 = false := by unfold lsame; rw [hb8, e8]; rfl
                    have HL := Aside0.mk (lfit.no8 a2 a0_0 a0_1 a0_2 a0_3 a0_4 a0_5 a0_6 a0_7 a0_8 a1_0 a1_1 a1_2 a1_3 a1_4 a1_5 a1_6 a1_7 a1_8 L8)
                    clear hx8 L8
                    go_wp2
                    go_ret
                    exact ⟨lfit.ret HL.out.symm, hB.out⟩
              · have e7 : (a0_7 == a1_7) = false := beq_eq_false_iff_ne.2 hx7
                have d7 : (a0_7 != a1_7) = true := by unfold bne; rw [e7]; rfl
                have L7 : lsame a2 7 a0_7 a1_7 = false := by unfold lsame; rw [hb7, e7]; rfl
                have HL := Aside0.mk (lfit.no7 a2 a0_0 a0_1 a0_2 a0_3 a0_4 a0_5 a0_6 a0_7 a0_8 a1_0 a1_1 a1_2 a1_3 a1_4 a1_5 a1_6 a1_7 a1_8 L7)
                clear hx7 L7
                go_wp2
                go_ret
                exact ⟨lfit.ret HL.out.symm, hB.out⟩
          | true =>
            have q6 : (a2 / 64 % 2 == 0) = false := lfit.y6 hb6
            by_cases hx6 : a0_6 = a1_6
            · have e6 : (a0_6 == a1_6) = true := beq_iff_eq.2 hx6
              have d6 : (a0_6 != a1_6) = false := by unfold bne; rw [e6]; rfl
              have HX6 := Aside0.mk hx6
              clear hx6
              cases hb7 : lbit a2 7 with
              | false =>
                have q7 : (a2 / 128 % 2 == 0) = true := lfit.n7 hb7
                cases hb8 : lbit a2 8 with
                | false =>
                  have q8 : (a2 / 256 % 2 == 0) = true := lfit.n8 hb8
                  go_wp2
                  go_ret
                  exact ⟨lfit.ret (by unfold lfits; rw [HL0.out, HL1.out, HL2.out, HL3.out, HL4.out, HL5.out, (show lsame a2 6 a0_6 a1_6 = true by unfold lsame; rw [hb6]; first | rfl | (rw [HX6.out]; simp)), (show lsame a2 7 a0_7 a1_7 = true by unfold lsame; rw [hb7]; first | rfl | (rw [HX7.out]; simp)), (show lsame a2 8 a0_8 a1_8 = true by unfold lsame; rw [hb8]; first | rfl | (rw [HX8.out]; simp))]; rfl), hB.out⟩
                | true =>
                  have q8 : (a2 / 256 % 2 == 0) = false := lfit.y8 hb8
                  by_cases hx8 : a0_8 = a1_8
                  · have e8 : (a0_8 == a1_8) = true := beq_iff_eq.2 hx8
                    have d8 : (a0_8 != a1_8) = false := by unfold bne; rw [e8]; rfl
                    have HX8 := Aside0.mk hx8
                    clear hx8
                    go_wp2
                    go_ret
                    exact ⟨lfit.ret (by unfold lfits; rw [HL0.out, HL1.out, HL2.out, HL3.out, HL4.out, HL5.out, (show lsame a2 6 a0_6 a1_6 = true by unfold lsame; rw [hb6]; first | rfl | (rw [HX6.out]; simp)), (show lsame a2 7 a0_7 a1_7 = true by unfold lsame; rw [hb7]; first | rfl | (rw [HX7.out]; simp)), (show lsame a2 8 a0_8 a1_8 = true by unfold lsame; rw [hb8]; first | rfl | (rw [HX8.out]; simp))]; rfl), hB.out⟩
                  · have e8 : (a0_8 == a1_8) = false := beq_eq_false_iff_ne.2 hx8
                    have d8 : (a0_8 != a1_8) = true := by unfold bne; rw [e8]; rfl
                    have L8 : lsame a2 8 a0_8 a1_8 = false := by unfold lsame; rw [hb8, e8]; rfl
                    have HL := Aside0.mk (lfit.no8 a2 a0_0 a0_1 a0_2 a0_3 a0_4 a0_5 a0_6 a0_7 a0_8 a1_0 a1_1 a1_2 a1_3 a1_4 a1_5 a1_6 a1_7 a1_8 L8)
                    clear hx8 L8
                    go_wp2
                    go_ret
                    exact ⟨lfit.ret HL.out.symm, hB.out⟩
              | true =>
                have q7 : (a2 / 128 % 2 == 0) = false := lfit.y7 hb7
                by_cases hx7 : a0_7 = a1_7
                · have e7 : (a0_7 == a1_7) = true := beq_iff_eq.2 hx7
                  have d7 : (a0_7 != a1_7) = false := by unfold bne; rw [e7]; rfl
                  have HX7 := Aside0.mk hx7
                  clear hx7
                  cases hb8 : lbit a2 8 with
                  | false =>
                    have q8 : (a2 / 256 % 2 == 0) = true := lfit.n8 hb8
                    go_wp2
                    go_ret
                    exact ⟨lfit.ret (by unfold lfits; rw [HL0.out, HL1.out, HL2.out, HL3.out, HL4.out, HL5.out, (show lsame a2 6 a0_6 a1_6 = true by unfold lsame; rw [hb6]; first | rfl | (rw [HX6.out]; simp)), (show lsame a2 7 a0_7 a1_7 = true by unfold lsame; rw [hb7]; first | rfl | (rw [HX7.out]; simp)), (show lsame a2 8 a0_8 a1_8 = true by unfold lsame; rw [hb8]; first | rfl | (rw [HX8.out]; simp))]; rfl), hB.out⟩
                  | true =>
                    have q8 : (a2 / 256 % 2 == 0) = false := lfit.y8 hb8
                    by_cases hx8 : a0_8 = a1_8
                    · have e8 : (a0_8 == a1_8) = true := beq_iff_eq.2 hx8
                      have d8 : (a0_8 != a1_8) = false := by unfold bne; rw [e8]; rfl
                      have HX8 := Aside0.mk hx8
                      clear hx8
                      go_wp2
                      go_ret
                      exact ⟨lfit.ret (by unfold lfits; rw [HL0.out, HL1.out, HL2.out, HL3.out, HL4.out, HL5.out, (show lsame a2 6 a0_6 a1_6 = true by unfold lsame; rw [hb6]; first | rfl | (rw [HX6.out]; simp)), (show lsame a2 7 a0_7 a1_7 = true by unfold lsame; rw [hb7]; first | rfl | (rw [HX7.out]; simp)), (show lsame a2 8 a0_8 a1_8 = true by unfold lsame; rw [hb8]; first | rfl | (rw [HX8.out]; simp))]; rfl), hB.out⟩
                    · have e8 : (a0_8 == a1_8) = false := beq_eq_false_iff_ne.2 hx8
                      have d8 : (a0_8 != a1_8) = true := by unfold bne; rw [e8]; rfl
                      have L8 : lsame a2 8 a0_8 a1_8 = false := by unfold lsame; rw [hb8, e8]; rfl
                      have HL := Aside0.mk (lfit.no8 a2 a0_0 a0_1 a0_2 a0_3 a0_4 a0_5 a0_6 a0_7 a0_8 a1_0 a1_1 a1_2 a1_3 a1_4 a1_5 a1_6 a1_7 a1_8 L8)
                      clear hx8 L8
                      go_wp2
                      go_ret
                      exact ⟨lfit.ret HL.out.symm, hB.out⟩
                · have e7 : (a0_7 == a1_7) = false := beq_eq_false_iff_ne.2 hx7
                  have d7 : (a0_7 != a1_7) = true := by unfold bne; rw [e7]; rfl
                  have L7 : lsame a2 7 a0_7 a1_7 = false := by unfold lsame; rw [hb7, e7]; rfl
                  have HL := Aside0.mk (lfit.no7 a2 a0_0 a0_1 a0_2 a0_3 a0_4 a0_5 a0_6 a0_7 a0_8 a1_0 a1_1 a1_2 a1_3 a1_4 a1_5 a1_6 a1_7 a1_8 L7)
                  clear hx7 L7
                  go_wp2
                  go_ret
                  exact ⟨lfit.ret HL.out.symm, hB.out⟩
            · have e6 : (a0_6 == a1_6) = false := beq_eq_false_iff_ne.2 hx6
              have d6 : (a0_6 != a1_6) = true := by unfold bne; rw [e6]; rfl
              have L6 : lsame a2 6 a0_6 a1_6 = false := by unfold lsame; rw [hb6, e6]; rfl
              have HL := Aside0.mk (lfit.no6 a2 a0_0 a0_1 a0_2 a0_3 a0_4 a0_5 a0_6 a0_7 a0_8 a1_0 a1_1 a1_2 a1_3 a1_4 a1_5 a1_6 a1_7 a1_8 L6)
              clear hx6 L6
              go_wp2
              go_ret
              exact ⟨lfit.ret HL.out.symm, hB.out⟩

/-! ### chamberlainref19_Select: function 14 -/
def chamberlainref19_Select.l0 : Nat → List (S25) → Int → List (S25) → Int → Int → Int → Int → Int → Int → Int → Int → Int → Int → Int → Option ((List (S25)))
  | 0, _, _, _, _, _, _, _, _, _, _, _, _, _, _ => none
  | k + 1, x0, x2, x7, x8, x171000, x171001, x171002, x171003, x171004, x171005, x171006, x171007, x171008, x171009 => if x8 < (x0.length : Int) then (if 0 ≤ x8 then ((chamberlainref19_Fits.f ((rd_T25 x0 x8).f0) ((rd_T25 x0 x8).f1) ((rd_T25 x0 x8).f2) ((rd_T25 x0 x8).f3) ((rd_T25 x0 x8).f4) ((rd_T25 x0 x8).f5) ((rd_T25 x0 x8).f6) ((rd_T25 x0 x8).f7) ((rd_T25 x0 x8).f8) ((rd_T25 x0 x8).f9) x171000 x171001 x171002 x171003 x171004 x171005 x171006 x171007 x171008 x171009 x2).bind fun t172 => (if t172 = true then (if x7.length < 2513169434916 then (chamberlainref19_Select.l0 k x0 x2 (x7 ++ [(⟨(rd_T25 x0 x8).f0, (rd_T25 x0 x8).f1, (rd_T25 x0 x8).f2, (rd_T25 x0 x8).f3, (rd_T25 x0 x8).f4, (rd_T25 x0 x8).f5, (rd_T25 x0 x8).f6, (rd_T25 x0 x8).f7, (rd_T25 x0 x8).f8, (rd_T25 x0 x8).f9⟩ : S25)]) (wrap64 (x8 + 1)) x171000 x171001 x171002 x171003 x171004 x171005 x171006 x171007 x171008 x171009) else (none)) else (chamberlainref19_Select.l0 k x0 x2 x7 (wrap64 (x8 + 1)) x171000 x171001 x171002 x171003 x171004 x171005 x171006 x171007 x171008 x171009))) else (none)) else (some x7)
def chamberlainref19_Select.f (k : Nat) (l0 : List (S25)) (a1_0 : Int) (a1_1 : Int) (a1_2 : Int) (a1_3 : Int) (a1_4 : Int) (a1_5 : Int) (a1_6 : Int) (a1_7 : Int) (a1_8 : Int) (a1_9 : Int) (a2 : Int) : Option ((List (S25))) := chamberlainref19_Select.l0 k l0 a2 ([] : List (S25)) 0 a1_0 a1_1 a1_2 a1_3 a1_4 a1_5 a1_6 a1_7 a1_8 a1_9
theorem chamberlainref19_Select.mono_l : ∀ k, (∀ y0 y1 y2 y3 y4 y5 y6 y7 y8 y9 y10 y11 y12 y13, LeO (chamberlainref19_Select.l0 k y0 y1 y2 y3 y4 y5 y6 y7 y8 y9 y10 y11 y12 y13) (chamberlainref19_Select.l0 (k + 1) y0 y1 y2 y3 y4 y5 y6 y7 y8 y9 y10 y11 y12 y13))
  | 0 => fun _ _ _ _ _ _ _ _ _ _ _ _ _ _ r h => by simp [chamberlainref19_Select.l0] at h
  | k + 1 => by
    have ih0 := chamberlainref19_Select.mono_l k
    · intro y0 y1 y2 y3 y4 y5 y6 y7 y8 y9 y10 y11 y12 y13
      unfold chamberlainref19_Select.l0
      repeat' first
      | (with_reducible exact ih0 _ _ _ _ _ _ _ _ _ _ _ _ _ _)
      | (with_reducible exact LeO.refl _)
      | (with_reducible exact LeO.none _)
      | (with_reducible refine LeO.ite ?_ ?_)
      | (with_reducible refine LeO.bind ?_ (fun _ => ?_))
      | exact ih0 _ _ _ _ _ _ _ _ _ _ _ _ _ _
      | exact LeO.none _
      | refine LeO.ite ?_ ?_
      | refine LeO.bind ?_ (fun _ => ?_)
theorem chamberlainref19_Select.mono : ∀ a0 a1 a2 a3 a4 a5 a6 a7 a8 a9 a10 a11 k, LeO (chamberlainref19_Select.f k a0 a1 a2 a3 a4 a5 a6 a7 a8 a9 a10 a11) (chamberlainref19_Select.f (k + 1) a0 a1 a2 a3 a4 a5 a6 a7 a8 a9 a10 a11) := by
  intro a0 a1 a2 a3 a4 a5 a6 a7 a8 a9 a10 a11 k
  have ih0 := chamberlainref19_Select.mono_l k
  unfold chamberlainref19_Select.f
  repeat' first
      | (with_reducible exact ih0 _ _ _ _ _ _ _ _ _ _ _ _ _ _)
      | (with_reducible exact LeO.refl _)
      | (with_reducible exact LeO.none _)
      | (with_reducible refine LeO.ite ?_ ?_)
      | (with_reducible refine LeO.bind ?_ (fun _ => ?_))
      | exact ih0 _ _ _ _ _ _ _ _ _ _ _ _ _ _
      | exact LeO.none _
      | refine LeO.ite ?_ ?_
      | refine LeO.bind ?_ (fun _ => ?_)
set_option maxHeartbeats 8000000 in
set_option maxRecDepth 100000 in
theorem chamberlainref19_Select.calls (k : Nat) (A0 : Option Addr) (c0 : Nat) (l0 : List (S25)) (a1_0 : Int) (a1_1 : Int) (a1_2 : Int) (a1_3 : Int) (a1_4 : Int) (a1_5 : Int) (a1_6 : Int) (a1_7 : Int) (a1_8 : Int) (a1_9 : Int) (a2 : Int) (r : List (S25)) (w : World) (hr0 : Kd.C k25 w A0 l0.length l0) (hc0 : l0.length ≤ c0) (h : chamberlainref19_Select.f k l0 a1_0 a1_1 a1_2 a1_3 a1_4 a1_5 a1_6 a1_7 a1_8 a1_9 a2 = some r) :
    Calls Try.prog 14 #[.slice A0 l0.length c0, .agg #[.int .i64 a1_0, .int .i64 a1_1, .int .i64 a1_2, .int .u32 a1_3, .int .u32 a1_4, .int .u32 a1_5, .int .u32 a1_6, .int .u32 a1_7, .int .u32 a1_8, .int .u32 a1_9], .int .i64 a2] w fun e w' => ∃ v0_ : Value, e = .returned (v0_) ∧ Kd.R k25 25 w' w.heap.size (fun _ => True) v0_ r ∧ Below w.heap.size w w' := by
  have hu25 := Try.underlying25
  have HR0 := Aside0.mk hr0
  have HC0 := Aside0.mk hc0
  clear hr0 hc0
  have HB := Aside0.mk (Below.refl w.heap.size w)
  have H : (chamberlainref19_Select.l0 k l0 a2 ([] : List (S25)) 0 a1_0 a1_1 a1_2 a1_3 a1_4 a1_5 a1_6 a1_7 a1_8 a1_9) = some r := h
  clear h
  have H' := Aside0.mk H
  clear H
  go_enter Try.func14, Try.ntmps14
  go_wp2_with (first | ((with_reducible refine gate_dst (N := 4) rfl ?_); refine box_event ?hg (N := 4) ?hd (cs := #[.int .i64 a1_0, .int .i64 a1_1, .int .i64 a1_2, .int .u32 a1_3, .int .u32 a1_4, .int .u32 a1_5, .int .u32 a1_6, .int .u32 a1_7, .int .u32 a1_8, .int .u32 a1_9]) (t := 25) ?hr ?_; (case hd => rfl); (case hg => rfl); (case hr => first | (go_simp; done) | (go_simp; rfl)); intro gb170 hg w4 hbox hb; have n0_ := Aside0.mk (below_step (by repeat (first | (with_reducible first | exact HB.out | apply below_alloc | apply pw_below_drewN | apply below_drew1) | exact HB.out)) hb); have n1_ := Aside0.mk (hbox); have n2_ := Aside0.mk ((by rw [hg]; exact (below_size (by repeat (first | (with_reducible first | exact HB.out | apply below_alloc | apply pw_below_drewN | apply below_drew1) | exact HB.out))) : w.heap.size ≤ gb170)); have n3_ := Aside0.mk ((by rw [hg]; exact (below_size (by repeat (first | (with_reducible first | exact HB.out | apply below_alloc | apply pw_below_drewN | apply below_drew1) | exact HB.out))) : w.heap.size ≤ gb170)); clear HB; have HB := n0_; have BK170 := n1_; have GW170 := n2_; have GE170 := n3_; clear n0_ n1_ n2_ n3_; clear hb hbox hg))
  go_loopg [7, 8] k (fun kq v7 v8 w' => ∃ (x7_1 : List (S25)) (x8_1 : Int), v8 = .int .i64 x8_1 ∧ Aside0 (chamberlainref19_Select.l0 kq l0 a2 x7_1 x8_1 a1_0 a1_1 a1_2 a1_3 a1_4 a1_5 a1_6 a1_7 a1_8 a1_9 = some r) ∧ Aside0 (kq ≤ k) ∧ Aside0 (Kd.R k25 25 w' w.heap.size (fun k_ => k_ ≠ gb170) v7 x7_1) ∧ Aside0 (w'.heap[gb170]? = some (.cells #[.int .i64 a1_0, .int .i64 a1_1, .int .i64 a1_2, .int .u32 a1_3, .int .u32 a1_4, .int .u32 a1_5, .int .u32 a1_6, .int .u32 a1_7, .int .u32 a1_8, .int .u32 a1_9] 25 (0, 0))) ∧ Aside0 (Below w.heap.size w w'))
  case atStart => exact ⟨(([] : List (S25))), (0), (by first | rfl | (simp; done) | (simp [*]; done)), H', ⟨Nat.le_refl _⟩, ⟨by first | exact Kd.R_nil _ _ _ _ _ | exact Kd.N_nil _ _ _ _ _ | exact Kd.V_nil _ _ _ _ _ | exact Kd.Q_nil _ _ _ _ _ | exact Kd.S_nil _ _ _ _ _⟩, ⟨by (with_reducible repeat (first | refine blk_drewN ?_ _ | refine blk_drew ?_ | refine blk_alloc ?_ _)); exact BK170.out⟩, ⟨by repeat (first | (with_reducible first | exact HB.out | apply below_alloc | apply pw_below_drewN | apply below_drew1 | refine below_set ?_ GE170.out) | exact HB.out)⟩⟩
  case round =>
    clear H'
    try clear c1
    try clear p2
    obtain ⟨x7_1, x8_1, rfl, HA, HK1, HO_7, BK170, HB⟩ := hrel
    cases gk with
    | zero => exact absurd HA.out (by simp [chamberlainref19_Select.l0])
    | succ k1 =>
      have H := HA.out
      clear HA
      simp only [chamberlainref19_Select.l0] at H
      by_cases c5 : x8_1 < (l0.length : Int)
      · rw [if_pos c5] at H
        have c5b0 : decide (x8_1 < (l0.length : Int)) = true := decide_eq_true c5
        clear c5
        by_cases c6 : 0 ≤ x8_1
        · rw [if_pos c6] at H
          have c6b0 : decide (0 ≤ x8_1) = true := decide_eq_true c6
          clear c6
          replace H := Option.bind_eq_some_iff.mp H
          obtain ⟨t172, A70, H⟩ := H
          replace H : (if t172 = true then (if x7_1.length < 2513169434916 then (chamberlainref19_Select.l0 k1 l0 a2 (x7_1 ++ [(⟨(rd_T25 l0 x8_1).f0, (rd_T25 l0 x8_1).f1, (rd_T25 l0 x8_1).f2, (rd_T25 l0 x8_1).f3, (rd_T25 l0 x8_1).f4, (rd_T25 l0 x8_1).f5, (rd_T25 l0 x8_1).f6, (rd_T25 l0 x8_1).f7, (rd_T25 l0 x8_1).f8, (rd_T25 l0 x8_1).f9⟩ : S25)]) (wrap64 (x8_1 + 1)) a1_0 a1_1 a1_2 a1_3 a1_4 a1_5 a1_6 a1_7 a1_8 a1_9) else (none)) else (chamberlainref19_Select.l0 k1 l0 a2 x7_1 (wrap64 (x8_1 + 1)) a1_0 a1_1 a1_2 a1_3 a1_4 a1_5 a1_6 a1_7 a1_8 a1_9)) = some r := H
          have A7 := Aside0.mk A70
          clear A70
          by_cases c8 : t172 = true
          · subst c8
            have H1 : (if x7_1.length < 2513169434916 then (chamberlainref19_Select.l0 k1 l0 a2 (x7_1 ++ [(⟨(rd_T25 l0 x8_1).f0, (rd_T25 l0 x8_1).f1, (rd_T25 l0 x8_1).f2, (rd_T25 l0 x8_1).f3, (rd_T25 l0 x8_1).f4, (rd_T25 l0 x8_1).f5, (rd_T25 l0 x8_1).f6, (rd_T25 l0 x8_1).f7, (rd_T25 l0 x8_1).f8, (rd_T25 l0 x8_1).f9⟩ : S25)]) (wrap64 (x8_1 + 1)) a1_0 a1_1 a1_2 a1_3 a1_4 a1_5 a1_6 a1_7 a1_8 a1_9) else (none)) = some r := by rw [if_pos rfl] at H; exact H
            clear H
            have H := H1
            clear H1
            by_cases c9 : x7_1.length < 2513169434916
            · rw [if_pos c9] at H
              have LMc9 := Aside0.mk c9
              clear c9
              obtain ⟨y174, hy174⟩ : ∃ y_ : List (S25), y_ = (x7_1 ++ [(⟨(rd_T25 l0 x8_1).f0, (rd_T25 l0 x8_1).f1, (rd_T25 l0 x8_1).f2, (rd_T25 l0 x8_1).f3, (rd_T25 l0 x8_1).f4, (rd_T25 l0 x8_1).f5, (rd_T25 l0 x8_1).f6, (rd_T25 l0 x8_1).f7, (rd_T25 l0 x8_1).f8, (rd_T25 l0 x8_1).f9⟩ : S25)]) := ⟨_, rfl⟩
              replace H : (chamberlainref19_Select.l0 k1 l0 a2 y174 (wrap64 (x8_1 + 1)) a1_0 a1_1 a1_2 a1_3 a1_4 a1_5 a1_6 a1_7 a1_8 a1_9) = some r := by first | (rw [hy174]; with_reducible exact H) | (have H2_ := (Option.bind_some _ _).symm.trans H; rw [hy174]; with_reducible exact H2_) | (have H2_ := (Option.bind_some _ _).symm.trans H; with_reducible exact H2_) | with_reducible exact H | (rw [hy174]; exact H) | exact H
              have Ny174 := Aside0.mk hy174
              clear hy174
              have H' := Aside0.mk H
              clear H
              try go_wp2
              have n0_ := Aside0.mk (Kd.R_drew HO_7.out)
              have n1_ := Aside0.mk (blk_drew BK170.out)
              have n2_ := Aside0.mk (below_drew1 HB.out)
              clear HO_7
              clear BK170
              clear HB
              have HO_7 := n0_
              have BK170 := n1_
              have HB := n2_
              clear n0_ n1_ n2_
              have p171 : 0 ≤ (x8_1 : Int) := of_decide_eq_true (by first | (with_reducible assumption) | assumption)
              have q171 : x8_1 < (l0.length : Int) := of_decide_eq_true (by first | (with_reducible assumption) | assumption)
              obtain ⟨ad171, e171, hx171_0, hx171_1, hx171_2, hx171_3, hx171_4, hx171_5, hx171_6, hx171_7, hx171_8, hx171_9⟩ := at_T25 HR0.out x8_1 p171 q171
              have hw171_9 := hx171_9
              have hw171_8 := hx171_8
              have hw171_7 := hx171_7
              have hw171_6 := hx171_6
              have hw171_5 := hx171_5
              have hw171_4 := hx171_4
              have hw171_3 := hx171_3
              have hw171_2 := hx171_2
              have hw171_1 := hx171_1
              have hw171_0 := hx171_0
              cases e171
              replace hx171_0 := (HB.out.cell (World.block_lt_of_cell? w _ hx171_0)).trans hx171_0
              replace hx171_1 := (HB.out.cell (World.block_lt_of_cell? w _ hx171_1)).trans hx171_1
              replace hx171_2 := (HB.out.cell (World.block_lt_of_cell? w _ hx171_2)).trans hx171_2
              replace hx171_3 := (HB.out.cell (World.block_lt_of_cell? w _ hx171_3)).trans hx171_3
              replace hx171_4 := (HB.out.cell (World.block_lt_of_cell? w _ hx171_4)).trans hx171_4
              replace hx171_5 := (HB.out.cell (World.block_lt_of_cell? w _ hx171_5)).trans hx171_5
              replace hx171_6 := (HB.out.cell (World.block_lt_of_cell? w _ hx171_6)).trans hx171_6
              replace hx171_7 := (HB.out.cell (World.block_lt_of_cell? w _ hx171_7)).trans hx171_7
              replace hx171_8 := (HB.out.cell (World.block_lt_of_cell? w _ hx171_8)).trans hx171_8
              replace hx171_9 := (HB.out.cell (World.block_lt_of_cell? w _ hx171_9)).trans hx171_9
              replace p171 := eq_true p171
              replace q171 := eq_true q171
              refine start_ (n := 7) (S := fun w' => w'.cell? ⟨gb170, 0, none⟩ = some (.int .i64 a1_0) ∧ w'.cell? ⟨gb170, 1, none⟩ = some (.int .i64 a1_1) ∧ w'.cell? ⟨gb170, 2, none⟩ = some (.int .i64 a1_2) ∧ w'.cell? ⟨gb170, 3, none⟩ = some (.int .u32 a1_3) ∧ w'.cell? ⟨gb170, 4, none⟩ = some (.int .u32 a1_4) ∧ w'.cell? ⟨gb170, 5, none⟩ = some (.int .u32 a1_5) ∧ w'.cell? ⟨gb170, 6, none⟩ = some (.int .u32 a1_6) ∧ w'.cell? ⟨gb170, 7, none⟩ = some (.int .u32 a1_7) ∧ w'.cell? ⟨gb170, 8, none⟩ = some (.int .u32 a1_8) ∧ w'.cell? ⟨gb170, 9, none⟩ = some (.int .u32 a1_9) ∧ w'.cell? (ad171.add ((x8_1).toNat * 10)) = some (.int .i64 ((rd_T25 l0 x8_1).f0)) ∧ w'.cell? ⟨(ad171.add ((x8_1).toNat * 10)).block, (ad171.add ((x8_1).toNat * 10)).off + 1, none⟩ = some (.int .i64 ((rd_T25 l0 x8_1).f1)) ∧ w'.cell? ⟨(ad171.add ((x8_1).toNat * 10)).block, (ad171.add ((x8_1).toNat * 10)).off + 2, none⟩ = some (.int .i64 ((rd_T25 l0 x8_1).f2)) ∧ w'.cell? ⟨(ad171.add ((x8_1).toNat * 10)).block, (ad171.add ((x8_1).toNat * 10)).off + 3, none⟩ = some (.int .u32 ((rd_T25 l0 x8_1).f3)) ∧ w'.cell? ⟨(ad171.add ((x8_1).toNat * 10)).block, (ad171.add ((x8_1).toNat * 10)).off + 4, none⟩ = some (.int .u32 ((rd_T25 l0 x8_1).f4)) ∧ w'.cell? ⟨(ad171.add ((x8_1).toNat * 10)).block, (ad171.add ((x8_1).toNat * 10)).off + 5, none⟩ = some (.int .u32 ((rd_T25 l0 x8_1).f5)) ∧ w'.cell? ⟨(ad171.add ((x8_1).toNat * 10)).block, (ad171.add ((x8_1).toNat * 10)).off + 6, none⟩ = some (.int .u32 ((rd_T25 l0 x8_1).f6)) ∧ w'.cell? ⟨(ad171.add ((x8_1).toNat * 10)).block, (ad171.add ((x8_1).toNat * 10)).off + 7, none⟩ = some (.int .u32 ((rd_T25 l0 x8_1).f7)) ∧ w'.cell? ⟨(ad171.add ((x8_1).toNat * 10)).block, (ad171.add ((x8_1).toNat * 10)).off + 8, none⟩ = some (.int .u32 ((rd_T25 l0 x8_1).f8)) ∧ w'.cell? ⟨(ad171.add ((x8_1).toNat * 10)).block, (ad171.add ((x8_1).toNat * 10)).off + 9, none⟩ = some (.int .u32 ((rd_T25 l0 x8_1).f9))) (ds := []) #[false, false, false, false, false, false, false] (by kernel_rfl) rfl rfl ⟨(blk_cell BK170.out 0).trans rfl, (blk_cell BK170.out 1).trans rfl, (blk_cell BK170.out 2).trans rfl, (blk_cell BK170.out 3).trans rfl, (blk_cell BK170.out 4).trans rfl, (blk_cell BK170.out 5).trans rfl, (blk_cell BK170.out 6).trans rfl, (blk_cell BK170.out 7).trans rfl, (blk_cell BK170.out 8).trans rfl, (blk_cell BK170.out 9).trans rfl, ((HB.out.cell (World.block_lt_of_cell? w _ hw171_0)).trans hw171_0), ((HB.out.cell (World.block_lt_of_cell? w _ hw171_1)).trans hw171_1), ((HB.out.cell (World.block_lt_of_cell? w _ hw171_2)).trans hw171_2), ((HB.out.cell (World.block_lt_of_cell? w _ hw171_3)).trans hw171_3), ((HB.out.cell (World.block_lt_of_cell? w _ hw171_4)).trans hw171_4), ((HB.out.cell (World.block_lt_of_cell? w _ hw171_5)).trans hw171_5), ((HB.out.cell (World.block_lt_of_cell? w _ hw171_6)).trans hw171_6), ((HB.out.cell (World.block_lt_of_cell? w _ hw171_7)).trans hw171_7), ((HB.out.cell (World.block_lt_of_cell? w _ hw171_8)).trans hw171_8), ((HB.out.cell (World.block_lt_of_cell? w _ hw171_9)).trans hw171_9)⟩ (fun hHeld => ?_)
              generalize wr.drew = w10 at HO_7 BK170 HB hx171_0 hx171_1 hx171_2 hx171_3 hx171_4 hx171_5 hx171_6 hx171_7 hx171_8 hx171_9 hHeld ⊢
              refine pure_ (i := 0) (N := some 15) (v := ?_) (a' := ?_) #[true, false, false, false, false, false, false] rfl rfl (by kernel_rfl) (fun _ _ _ h => h) (Or.inl ⟨by rfl, ?_⟩) ?_ ?_
              rotate_left
              · intro w'
                go_simp
                with_reducible rfl
              rotate_left
              · simp only [Act.put, List.setIfInBounds_toArray, List.set_cons_zero, List.set_cons_succ, i64_w, i32_w]
                rfl
              refine pure_ (i := 1) (N := some 16) (v := ?_) (a' := ?_) #[true, true, false, false, false, false, false] rfl rfl (by kernel_rfl) (fun _ _ _ h => h) (Or.inl ⟨by rfl, ?_⟩) ?_ ?_
              rotate_left
              · intro w'
                go_simp
                with_reducible rfl
              rotate_left
              · simp only [Act.put, List.setIfInBounds_toArray, List.set_cons_zero, List.set_cons_succ, i64_w, i32_w]
                rfl
              refine pure_ (i := 2) (N := some 17) (v := ?_) (a' := ?_) #[true, true, true, false, false, false, false] rfl rfl (by kernel_rfl) (fun _ _ _ h => h) (Or.inl ⟨by rfl, ?_⟩) ?_ ?_
              rotate_left
              · intro w'
                go_simp
                with_reducible rfl
              rotate_left
              · simp only [Act.put, List.setIfInBounds_toArray, List.set_cons_zero, List.set_cons_succ, i64_w, i32_w]
                rfl
              refine pure_ (i := 5) (N := some 20) (v := ?_) (a' := ?_) #[true, true, true, false, false, true, false] rfl rfl (by kernel_rfl) (fun _ _ _ h => h) (Or.inl ⟨by rfl, ?_⟩) ?_ ?_
              rotate_left
              · intro w'
                go_simp
                with_reducible rfl
              rotate_left
              · simp only [Act.put, List.setIfInBounds_toArray, List.set_cons_zero, List.set_cons_succ, i64_w, i32_w]
                rfl
              refine take_ (i := 3) (N := some 18) (v := ?_) (a' := ?_) #[true, true, true, true, false, true, false] rfl rfl (by kernel_rfl) (fun _ _ _ h => h) (Or.inl ⟨by rfl, ?_⟩) hHeld ?_ ?_
              rotate_left
              · rintro w' ⟨s0, s1, s2, s3, s4, s5, s6, s7, s8, s9, s10, s11, s12, s13, s14, s15, s16, s17, s18, s19⟩
                go_simp
                with_reducible rfl
              rotate_left
              · simp only [Act.put, List.setIfInBounds_toArray, List.set_cons_zero, List.set_cons_succ, i64_w, i32_w]
                rfl
              refine take_ (i := 4) (N := some 19) (v := ?_) (a' := ?_) #[true, true, true, true, true, true, false] rfl rfl (by kernel_rfl) (fun _ _ _ h => h) (Or.inl ⟨by rfl, ?_⟩) hHeld ?_ ?_
              rotate_left
              · rintro w' ⟨s0, s1, s2, s3, s4, s5, s6, s7, s8, s9, s10, s11, s12, s13, s14, s15, s16, s17, s18, s19⟩
                go_simp
                with_reducible rfl
              rotate_left
              · simp only [Act.put, List.setIfInBounds_toArray, List.set_cons_zero, List.set_cons_succ, i64_w, i32_w]
                rfl
              refine one_ (i := 6) (N := some 21) #[true, true, true, true, true, true, true] rfl rfl (by kernel_rfl) (by decide) (fun K hK => ?_)
              refine goes_ Try.func11 (by kernel_rfl) rfl #[.agg #[.int .i64 ((rd_T25 l0 x8_1).f0), .int .i64 ((rd_T25 l0 x8_1).f1), .int .i64 ((rd_T25 l0 x8_1).f2), .int .u32 ((rd_T25 l0 x8_1).f3), .int .u32 ((rd_T25 l0 x8_1).f4), .int .u32 ((rd_T25 l0 x8_1).f5), .int .u32 ((rd_T25 l0 x8_1).f6), .int .u32 ((rd_T25 l0 x8_1).f7), .int .u32 ((rd_T25 l0 x8_1).f8), .int .u32 ((rd_T25 l0 x8_1).f9)], .agg #[.int .i64 a1_0, .int .i64 a1_1, .int .i64 a1_2, .int .u32 a1_3, .int .u32 a1_4, .int .u32 a1_5, .int .u32 a1_6, .int .u32 a1_7, .int .u32 a1_8, .int .u32 a1_9], .int .i64 a2] (by rfl) rfl rfl (by (try simp only [List.map_toArray, List.map_cons, List.map_nil]); first | done | rfl | (simp only [List.length_drop, List.length_take]; rfl)) ?_
              with_reducible refine (chamberlainref19_Fits.calls ((rd_T25 l0 x8_1).f0) ((rd_T25 l0 x8_1).f1) ((rd_T25 l0 x8_1).f2) ((rd_T25 l0 x8_1).f3) ((rd_T25 l0 x8_1).f4) ((rd_T25 l0 x8_1).f5) ((rd_T25 l0 x8_1).f6) ((rd_T25 l0 x8_1).f7) ((rd_T25 l0 x8_1).f8) ((rd_T25 l0 x8_1).f9) a1_0 a1_1 a1_2 a1_3 a1_4 a1_5 a1_6 a1_7 a1_8 a1_9 a2 true _ A7.out).mono ?_
              rintro e w11 ⟨rfl, hb⟩
              refine ⟨_, rfl, ?_⟩
              have n0_ := Aside0.mk (Kd.R_below (by (with_reducible repeat (first | apply Kd.R_alloc | apply Kd.R_drewN | apply Kd.R_drew)); exact HO_7.out) hb)
              have n1_ := Aside0.mk (blk_below (g := gb170) (o := .cells #[.int .i64 a1_0, .int .i64 a1_1, .int .i64 a1_2, .int .u32 a1_3, .int .u32 a1_4, .int .u32 a1_5, .int .u32 a1_6, .int .u32 a1_7, .int .u32 a1_8, .int .u32 a1_9] 25 (0, 0)) (by (with_reducible repeat (first | refine blk_drewN ?_ _ | refine blk_drew ?_ | refine blk_alloc ?_ _)); exact BK170.out) hb)
              have n2_ := Aside0.mk (below_step (by repeat (first | (with_reducible first | exact HB.out | apply below_alloc | apply pw_below_drewN | apply below_drew1 | refine below_set ?_ GE170.out) | exact HB.out)) hb)
              clear HO_7
              clear BK170
              clear HB
              have HO_7 := n0_
              have BK170 := n1_
              have HB := n2_
              clear n0_ n1_ n2_
              (try clear hb)
              (try clear hb2)
              (try clear hk)
              (try clear hi)
              refine hK.out _ _ ⟨(blk_cell BK170.out 0).trans rfl, (blk_cell BK170.out 1).trans rfl, (blk_cell BK170.out 2).trans rfl, (blk_cell BK170.out 3).trans rfl, (blk_cell BK170.out 4).trans rfl, (blk_cell BK170.out 5).trans rfl, (blk_cell BK170.out 6).trans rfl, (blk_cell BK170.out 7).trans rfl, (blk_cell BK170.out 8).trans rfl, (blk_cell BK170.out 9).trans rfl, ((HB.out.cell (World.block_lt_of_cell? w _ hw171_0)).trans hw171_0), ((HB.out.cell (World.block_lt_of_cell? w _ hw171_1)).trans hw171_1), ((HB.out.cell (World.block_lt_of_cell? w _ hw171_2)).trans hw171_2), ((HB.out.cell (World.block_lt_of_cell? w _ hw171_3)).trans hw171_3), ((HB.out.cell (World.block_lt_of_cell? w _ hw171_4)).trans hw171_4), ((HB.out.cell (World.block_lt_of_cell? w _ hw171_5)).trans hw171_5), ((HB.out.cell (World.block_lt_of_cell? w _ hw171_6)).trans hw171_6), ((HB.out.cell (World.block_lt_of_cell? w _ hw171_7)).trans hw171_7), ((HB.out.cell (World.block_lt_of_cell? w _ hw171_8)).trans hw171_8), ((HB.out.cell (World.block_lt_of_cell? w _ hw171_9)).trans hw171_9)⟩ (fun hHeld => ?_)
              clear hK K
              refine norm_ (a' := ?_) ?_ ?_
              rotate_left
              · show Act.put _ (some 21) _ = _
                simp only [Act.put, List.setIfInBounds_toArray, List.set_cons_zero, List.set_cons_succ, i64_w, i32_w]
                rfl
              refine done_ (by kernel_rfl) ?_
              have p173 : 0 ≤ (x8_1 : Int) := of_decide_eq_true (by first | (with_reducible assumption) | assumption)
              have q173 : x8_1 < (l0.length : Int) := of_decide_eq_true (by first | (with_reducible assumption) | assumption)
              obtain ⟨ad173, e173, hx173_0, hx173_1, hx173_2, hx173_3, hx173_4, hx173_5, hx173_6, hx173_7, hx173_8, hx173_9⟩ := at_T25 HR0.out x8_1 p173 q173
              obtain rfl : ad171 = ad173 := (by injection e173)
              replace hx173_0 := (HB.out.cell (World.block_lt_of_cell? w _ hx173_0)).trans hx173_0
              replace hx173_1 := (HB.out.cell (World.block_lt_of_cell? w _ hx173_1)).trans hx173_1
              replace hx173_2 := (HB.out.cell (World.block_lt_of_cell? w _ hx173_2)).trans hx173_2
              replace hx173_3 := (HB.out.cell (World.block_lt_of_cell? w _ hx173_3)).trans hx173_3
              replace hx173_4 := (HB.out.cell (World.block_lt_of_cell? w _ hx173_4)).trans hx173_4
              replace hx173_5 := (HB.out.cell (World.block_lt_of_cell? w _ hx173_5)).trans hx173_5
              replace hx173_6 := (HB.out.cell (World.block_lt_of_cell? w _ hx173_6)).trans hx173_6
              replace hx173_7 := (HB.out.cell (World.block_lt_of_cell? w _ hx173_7)).trans hx173_7
              replace hx173_8 := (HB.out.cell (World.block_lt_of_cell? w _ hx173_8)).trans hx173_8
              replace hx173_9 := (HB.out.cell (World.block_lt_of_cell? w _ hx173_9)).trans hx173_9
              replace p173 := eq_true p173
              replace q173 := eq_true q173
              try go_wp2_with (first | ((with_reducible refine gate_builtin (b := .append) (xs := #[.tmp 22, .tmp 27]) rfl ?_); at_builtin; refine Kd.R_append k25 (w0 := w) w.heap.size rfl (.tmp 22) (.tmp 27) 22 25 (.agg #[(.int .i64 0), (.int .i64 0), (.int .i64 0), (.int .u32 0), (.int .u32 0), (.int .u32 0), (.int .u32 0), (.int .u32 0), (.int .u32 0), (.int .u32 0)]) 56 rfl Try.underlying22 info25 rfl (by decide) (by omega) u7 x7_1 (⟨(rd_T25 l0 x8_1).f0, (rd_T25 l0 x8_1).f1, (rd_T25 l0 x8_1).f2, (rd_T25 l0 x8_1).f3, (rd_T25 l0 x8_1).f4, (rd_T25 l0 x8_1).f5, (rd_T25 l0 x8_1).f6, (rd_T25 l0 x8_1).f7, (rd_T25 l0 x8_1).f8, (rd_T25 l0 x8_1).f9⟩ : S25) [.int .i64 ((rd_T25 l0 x8_1).f0), .int .i64 ((rd_T25 l0 x8_1).f1), .int .i64 ((rd_T25 l0 x8_1).f2), .int .u32 ((rd_T25 l0 x8_1).f3), .int .u32 ((rd_T25 l0 x8_1).f4), .int .u32 ((rd_T25 l0 x8_1).f5), .int .u32 ((rd_T25 l0 x8_1).f6), .int .u32 ((rd_T25 l0 x8_1).f7), .int .u32 ((rd_T25 l0 x8_1).f8), .int .u32 ((rd_T25 l0 x8_1).f9)] (fun k_ => k_ ≠ gb170) (fun _ => False) rfl rfl ?aP (fun _ hk => hk.elim) ?aF ?aO ?aB ?aS ?aL ?_; (case aP => exact k25_mkM _ _ _ (⟨(rd_T25 l0 x8_1).f0, (rd_T25 l0 x8_1).f1, (rd_T25 l0 x8_1).f2, (rd_T25 l0 x8_1).f3, (rd_T25 l0 x8_1).f4, (rd_T25 l0 x8_1).f5, (rd_T25 l0 x8_1).f6, (rd_T25 l0 x8_1).f7, (rd_T25 l0 x8_1).f8, (rd_T25 l0 x8_1).f9⟩ : S25)); (case aB => exact (by repeat (first | (with_reducible first | exact HB.out | apply below_alloc | apply pw_below_drewN | apply below_drew1 | refine below_set ?_ GE170.out) | exact HB.out))); (case aF => exact (fun k_ hk => Kd.freshB (g := gb170) (o := .cells #[.int .i64 a1_0, .int .i64 a1_1, .int .i64 a1_2, .int .u32 a1_3, .int .u32 a1_4, .int .u32 a1_5, .int .u32 a1_6, .int .u32 a1_7, .int .u32 a1_8, .int .u32 a1_9] 25 (0, 0)) (by (with_reducible repeat (first | refine blk_drewN ?_ _ | refine blk_drew ?_ | refine blk_alloc ?_ _)); exact BK170.out) k_ hk)); (case aO => exact (by (with_reducible repeat (first | apply Kd.R_alloc | apply Kd.R_drewN | apply Kd.R_drew)); exact HO_7.out)); (case aS => exact (below_size (by repeat (first | (with_reducible first | exact HB.out | apply below_alloc | apply pw_below_drewN | apply below_drew1 | refine below_set ?_ GE170.out) | exact HB.out)))); (case aL => have := LMc9.out; omega); intro v175 w12 ho hb hg hat; rw [← Ny174.out] at ho; have n0_ := Aside0.mk (blk_grown (g := gb170) (o := .cells #[.int .i64 a1_0, .int .i64 a1_1, .int .i64 a1_2, .int .u32 a1_3, .int .u32 a1_4, .int .u32 a1_5, .int .u32 a1_6, .int .u32 a1_7, .int .u32 a1_8, .int .u32 a1_9] 25 (0, 0)) (by (with_reducible repeat (first | refine blk_drewN ?_ _ | refine blk_drew ?_ | refine blk_alloc ?_ _)); exact BK170.out) hg (Kd.R_away HO_7.out (fun _ hk => hk))); have n1_ := Aside0.mk (hb); have n2_ := Aside0.mk (ho); clear BK170; clear HB; clear HO_7; have BK170 := n0_; have HB := n1_; have HO176 := n2_; clear n0_ n1_ n2_; clear ho hb hg hat))
              go_roundg k1
              case measure => have := HK1.out; omega
              case rel => exact ⟨(y174), (wrap64 (x8_1 + 1)), (by first | rfl | (simp; done) | (simp [*]; done)), H', ⟨by have := HK1.out; omega⟩, ⟨by (with_reducible repeat (first | apply Kd.R_alloc | apply Kd.R_drewN | apply Kd.R_drew)); exact HO176.out⟩, ⟨by (with_reducible repeat (first | refine blk_drewN ?_ _ | refine blk_drew ?_ | refine blk_alloc ?_ _)); exact BK170.out⟩, ⟨by repeat (first | (with_reducible first | exact HB.out | apply below_alloc | apply pw_below_drewN | apply below_drew1 | refine below_set ?_ GE170.out) | exact HB.out)⟩⟩
            · rw [if_neg c9] at H
              exact absurd H (by simp)
          · replace c8 := Bool.eq_false_iff.mpr c8
            subst c8
            have H1 : (chamberlainref19_Select.l0 k1 l0 a2 x7_1 (wrap64 (x8_1 + 1)) a1_0 a1_1 a1_2 a1_3 a1_4 a1_5 a1_6 a1_7 a1_8 a1_9) = some r := by rw [if_neg (show ¬ (false = true) by decide)] at H; exact H
            clear H
            have H := H1
            clear H1
            have H' := Aside0.mk H
            clear H
            try go_wp2
            have n0_ := Aside0.mk (Kd.R_drew HO_7.out)
            have n1_ := Aside0.mk (blk_drew BK170.out)
            have n2_ := Aside0.mk (below_drew1 HB.out)
            clear HO_7
            clear BK170
            clear HB
            have HO_7 := n0_
            have BK170 := n1_
            have HB := n2_
            clear n0_ n1_ n2_
            have p171 : 0 ≤ (x8_1 : Int) := of_decide_eq_true (by first | (with_reducible assumption) | assumption)
            have q171 : x8_1 < (l0.length : Int) := of_decide_eq_true (by first | (with_reducible assumption) | assumption)
            obtain ⟨ad171, e171, hx171_0, hx171_1, hx171_2, hx171_3, hx171_4, hx171_5, hx171_6, hx171_7, hx171_8, hx171_9⟩ := at_T25 HR0.out x8_1 p171 q171
            have hw171_9 := hx171_9
            have hw171_8 := hx171_8
            have hw171_7 := hx171_7
            have hw171_6 := hx171_6
            have hw171_5 := hx171_5
            have hw171_4 := hx171_4
            have hw171_3 := hx171_3
            have hw171_2 := hx171_2
            have hw171_1 := hx171_1
            have hw171_0 := hx171_0
            cases e171
            replace hx171_0 := (HB.out.cell (World.block_lt_of_cell? w _ hx171_0)).trans hx171_0
            replace hx171_1 := (HB.out.cell (World.block_lt_of_cell? w _ hx171_1)).trans hx171_1
            replace hx171_2 := (HB.out.cell (World.block_lt_of_cell? w _ hx171_2)).trans hx171_2
            replace hx171_3 := (HB.out.cell (World.block_lt_of_cell? w _ hx171_3)).trans hx171_3
            replace hx171_4 := (HB.out.cell (World.block_lt_of_cell? w _ hx171_4)).trans hx171_4
            replace hx171_5 := (HB.out.cell (World.block_lt_of_cell? w _ hx171_5)).trans hx171_5
            replace hx171_6 := (HB.out.cell (World.block_lt_of_cell? w _ hx171_6)).trans hx171_6
            replace hx171_7 := (HB.out.cell (World.block_lt_of_cell? w _ hx171_7)).trans hx171_7
            replace hx171_8 := (HB.out.cell (World.block_lt_of_cell? w _ hx171_8)).trans hx171_8
            replace hx171_9 := (HB.out.cell (World.block_lt_of_cell? w _ hx171_9)).trans hx171_9
            replace p171 := eq_true p171
            replace q171 := eq_true q171
            refine start_ (n := 7) (S := fun w' => w'.cell? ⟨gb170, 0, none⟩ = some (.int .i64 a1_0) ∧ w'.cell? ⟨gb170, 1, none⟩ = some (.int .i64 a1_1) ∧ w'.cell? ⟨gb170, 2, none⟩ = some (.int .i64 a1_2) ∧ w'.cell? ⟨gb170, 3, none⟩ = some (.int .u32 a1_3) ∧ w'.cell? ⟨gb170, 4, none⟩ = some (.int .u32 a1_4) ∧ w'.cell? ⟨gb170, 5, none⟩ = some (.int .u32 a1_5) ∧ w'.cell? ⟨gb170, 6, none⟩ = some (.int .u32 a1_6) ∧ w'.cell? ⟨gb170, 7, none⟩ = some (.int .u32 a1_7) ∧ w'.cell? ⟨gb170, 8, none⟩ = some (.int .u32 a1_8) ∧ w'.cell? ⟨gb170, 9, none⟩ = some (.int .u32 a1_9) ∧ w'.cell? (ad171.add ((x8_1).toNat * 10)) = some (.int .i64 ((rd_T25 l0 x8_1).f0)) ∧ w'.cell? ⟨(ad171.add ((x8_1).toNat * 10)).block, (ad171.add ((x8_1).toNat * 10)).off + 1, none⟩ = some (.int .i64 ((rd_T25 l0 x8_1).f1)) ∧ w'.cell? ⟨(ad171.add ((x8_1).toNat * 10)).block, (ad171.add ((x8_1).toNat * 10)).off + 2, none⟩ = some (.int .i64 ((rd_T25 l0 x8_1).f2)) ∧ w'.cell? ⟨(ad171.add ((x8_1).toNat * 10)).block, (ad171.add ((x8_1).toNat * 10)).off + 3, none⟩ = some (.int .u32 ((rd_T25 l0 x8_1).f3)) ∧ w'.cell? ⟨(ad171.add ((x8_1).toNat * 10)).block, (ad171.add ((x8_1).toNat * 10)).off + 4, none⟩ = some (.int .u32 ((rd_T25 l0 x8_1).f4)) ∧ w'.cell? ⟨(ad171.add ((x8_1).toNat * 10)).block, (ad171.add ((x8_1).toNat * 10)).off + 5, none⟩ = some (.int .u32 ((rd_T25 l0 x8_1).f5)) ∧ w'.cell? ⟨(ad171.add ((x8_1).toNat * 10)).block, (ad171.add ((x8_1).toNat * 10)).off + 6, none⟩ = some (.int .u32 ((rd_T25 l0 x8_1).f6)) ∧ w'.cell? ⟨(ad171.add ((x8_1).toNat * 10)).block, (ad171.add ((x8_1).toNat * 10)).off + 7, none⟩ = some (.int .u32 ((rd_T25 l0 x8_1).f7)) ∧ w'.cell? ⟨(ad171.add ((x8_1).toNat * 10)).block, (ad171.add ((x8_1).toNat * 10)).off + 8, none⟩ = some (.int .u32 ((rd_T25 l0 x8_1).f8)) ∧ w'.cell? ⟨(ad171.add ((x8_1).toNat * 10)).block, (ad171.add ((x8_1).toNat * 10)).off + 9, none⟩ = some (.int .u32 ((rd_T25 l0 x8_1).f9))) (ds := []) #[false, false, false, false, false, false, false] (by kernel_rfl) rfl rfl ⟨(blk_cell BK170.out 0).trans rfl, (blk_cell BK170.out 1).trans rfl, (blk_cell BK170.out 2).trans rfl, (blk_cell BK170.out 3).trans rfl, (blk_cell BK170.out 4).trans rfl, (blk_cell BK170.out 5).trans rfl, (blk_cell BK170.out 6).trans rfl, (blk_cell BK170.out 7).trans rfl, (blk_cell BK170.out 8).trans rfl, (blk_cell BK170.out 9).trans rfl, ((HB.out.cell (World.block_lt_of_cell? w _ hw171_0)).trans hw171_0), ((HB.out.cell (World.block_lt_of_cell? w _ hw171_1)).trans hw171_1), ((HB.out.cell (World.block_lt_of_cell? w _ hw171_2)).trans hw171_2), ((HB.out.cell (World.block_lt_of_cell? w _ hw171_3)).trans hw171_3), ((HB.out.cell (World.block_lt_of_cell? w _ hw171_4)).trans hw171_4), ((HB.out.cell (World.block_lt_of_cell? w _ hw171_5)).trans hw171_5), ((HB.out.cell (World.block_lt_of_cell? w _ hw171_6)).trans hw171_6), ((HB.out.cell (World.block_lt_of_cell? w _ hw171_7)).trans hw171_7), ((HB.out.cell (World.block_lt_of_cell? w _ hw171_8)).trans hw171_8), ((HB.out.cell (World.block_lt_of_cell? w _ hw171_9)).trans hw171_9)⟩ (fun hHeld => ?_)
            generalize wr.drew = w13 at HO_7 BK170 HB hx171_0 hx171_1 hx171_2 hx171_3 hx171_4 hx171_5 hx171_6 hx171_7 hx171_8 hx171_9 hHeld ⊢
            refine pure_ (i := 0) (N := some 15) (v := ?_) (a' := ?_) #[true, false, false, false, false, false, false] rfl rfl (by kernel_rfl) (fun _ _ _ h => h) (Or.inl ⟨by rfl, ?_⟩) ?_ ?_
            rotate_left
            · intro w'
              go_simp
              with_reducible rfl
            rotate_left
            · simp only [Act.put, List.setIfInBounds_toArray, List.set_cons_zero, List.set_cons_succ, i64_w, i32_w]
              rfl
            refine pure_ (i := 1) (N := some 16) (v := ?_) (a' := ?_) #[true, true, false, false, false, false, false] rfl rfl (by kernel_rfl) (fun _ _ _ h => h) (Or.inl ⟨by rfl, ?_⟩) ?_ ?_
            rotate_left
            · intro w'
              go_simp
              with_reducible rfl
            rotate_left
            · simp only [Act.put, List.setIfInBounds_toArray, List.set_cons_zero, List.set_cons_succ, i64_w, i32_w]
              rfl
            refine pure_ (i := 2) (N := some 17) (v := ?_) (a' := ?_) #[true, true, true, false, false, false, false] rfl rfl (by kernel_rfl) (fun _ _ _ h => h) (Or.inl ⟨by rfl, ?_⟩) ?_ ?_
            rotate_left
            · intro w'
              go_simp
              with_reducible rfl
            rotate_left
            · simp only [Act.put, List.setIfInBounds_toArray, List.set_cons_zero, List.set_cons_succ, i64_w, i32_w]
              rfl
            refine pure_ (i := 5) (N := some 20) (v := ?_) (a' := ?_) #[true, true, true, false, false, true, false] rfl rfl (by kernel_rfl) (fun _ _ _ h => h) (Or.inl ⟨by rfl, ?_⟩) ?_ ?_
            rotate_left
            · intro w'
              go_simp
              with_reducible rfl
            rotate_left
            · simp only [Act.put, List.setIfInBounds_toArray, List.set_cons_zero, List.set_cons_succ, i64_w, i32_w]
              rfl
            refine take_ (i := 3) (N := some 18) (v := ?_) (a' := ?_) #[true, true, true, true, false, true, false] rfl rfl (by kernel_rfl) (fun _ _ _ h => h) (Or.inl ⟨by rfl, ?_⟩) hHeld ?_ ?_
            rotate_left
            · rintro w' ⟨s0, s1, s2, s3, s4, s5, s6, s7, s8, s9, s10, s11, s12, s13, s14, s15, s16, s17, s18, s19⟩
              go_simp
              with_reducible rfl
            rotate_left
            · simp only [Act.put, List.setIfInBounds_toArray, List.set_cons_zero, List.set_cons_succ, i64_w, i32_w]
              rfl
            refine take_ (i := 4) (N := some 19) (v := ?_) (a' := ?_) #[true, true, true, true, true, true, false] rfl rfl (by kernel_rfl) (fun _ _ _ h => h) (Or.inl ⟨by rfl, ?_⟩) hHeld ?_ ?_
            rotate_left
            · rintro w' ⟨s0, s1, s2, s3, s4, s5, s6, s7, s8, s9, s10, s11, s12, s13, s14, s15, s16, s17, s18, s19⟩
              go_simp
              with_reducible rfl
            rotate_left
            · simp only [Act.put, List.setIfInBounds_toArray, List.set_cons_zero, List.set_cons_succ, i64_w, i32_w]
              rfl
            refine one_ (i := 6) (N := some 21) #[true, true, true, true, true, true, true] rfl rfl (by kernel_rfl) (by decide) (fun K hK => ?_)
            refine goes_ Try.func11 (by kernel_rfl) rfl #[.agg #[.int .i64 ((rd_T25 l0 x8_1).f0), .int .i64 ((rd_T25 l0 x8_1).f1), .int .i64 ((rd_T25 l0 x8_1).f2), .int .u32 ((rd_T25 l0 x8_1).f3), .int .u32 ((rd_T25 l0 x8_1).f4), .int .u32 ((rd_T25 l0 x8_1).f5), .int .u32 ((rd_T25 l0 x8_1).f6), .int .u32 ((rd_T25 l0 x8_1).f7), .int .u32 ((rd_T25 l0 x8_1).f8), .int .u32 ((rd_T25 l0 x8_1).f9)], .agg #[.int .i64 a1_0, .int .i64 a1_1, .int .i64 a1_2, .int .u32 a1_3, .int .u32 a1_4, .int .u32 a1_5, .int .u32 a1_6, .int .u32 a1_7, .int .u32 a1_8, .int .u32 a1_9], .int .i64 a2] (by rfl) rfl rfl (by (try simp only [List.map_toArray, List.map_cons, List.map_nil]); first | done | rfl | (simp only [List.length_drop, List.length_take]; rfl)) ?_
            with_reducible refine (chamberlainref19_Fits.calls ((rd_T25 l0 x8_1).f0) ((rd_T25 l0 x8_1).f1) ((rd_T25 l0 x8_1).f2) ((rd_T25 l0 x8_1).f3) ((rd_T25 l0 x8_1).f4) ((rd_T25 l0 x8_1).f5) ((rd_T25 l0 x8_1).f6) ((rd_T25 l0 x8_1).f7) ((rd_T25 l0 x8_1).f8) ((rd_T25 l0 x8_1).f9) a1_0 a1_1 a1_2 a1_3 a1_4 a1_5 a1_6 a1_7 a1_8 a1_9 a2 false _ A7.out).mono ?_
            rintro e w14 ⟨rfl, hb⟩
            refine ⟨_, rfl, ?_⟩
            have n0_ := Aside0.mk (Kd.R_below (by (with_reducible repeat (first | apply Kd.R_alloc | apply Kd.R_drewN | apply Kd.R_drew)); exact HO_7.out) hb)
            have n1_ := Aside0.mk (blk_below (g := gb170) (o := .cells #[.int .i64 a1_0, .int .i64 a1_1, .int .i64 a1_2, .int .u32 a1_3, .int .u32 a1_4, .int .u32 a1_5, .int .u32 a1_6, .int .u32 a1_7, .int .u32 a1_8, .int .u32 a1_9] 25 (0, 0)) (by (with_reducible repeat (first | refine blk_drewN ?_ _ | refine blk_drew ?_ | refine blk_alloc ?_ _)); exact BK170.out) hb)
            have n2_ := Aside0.mk (below_step (by repeat (first | (with_reducible first | exact HB.out | apply below_alloc | apply pw_below_drewN | apply below_drew1 | refine below_set ?_ GE170.out) | exact HB.out)) hb)
            clear HO_7
            clear BK170
            clear HB
            have HO_7 := n0_
            have BK170 := n1_
            have HB := n2_
            clear n0_ n1_ n2_
            (try clear hb)
            (try clear hb2)
            (try clear hk)
            (try clear hi)
            refine hK.out _ _ ⟨(blk_cell BK170.out 0).trans rfl, (blk_cell BK170.out 1).trans rfl, (blk_cell BK170.out 2).trans rfl, (blk_cell BK170.out 3).trans rfl, (blk_cell BK170.out 4).trans rfl, (blk_cell BK170.out 5).trans rfl, (blk_cell BK170.out 6).trans rfl, (blk_cell BK170.out 7).trans rfl, (blk_cell BK170.out 8).trans rfl, (blk_cell BK170.out 9).trans rfl, ((HB.out.cell (World.block_lt_of_cell? w _ hw171_0)).trans hw171_0), ((HB.out.cell (World.block_lt_of_cell? w _ hw171_1)).trans hw171_1), ((HB.out.cell (World.block_lt_of_cell? w _ hw171_2)).trans hw171_2), ((HB.out.cell (World.block_lt_of_cell? w _ hw171_3)).trans hw171_3), ((HB.out.cell (World.block_lt_of_cell? w _ hw171_4)).trans hw171_4), ((HB.out.cell (World.block_lt_of_cell? w _ hw171_5)).trans hw171_5), ((HB.out.cell (World.block_lt_of_cell? w _ hw171_6)).trans hw171_6), ((HB.out.cell (World.block_lt_of_cell? w _ hw171_7)).trans hw171_7), ((HB.out.cell (World.block_lt_of_cell? w _ hw171_8)).trans hw171_8), ((HB.out.cell (World.block_lt_of_cell? w _ hw171_9)).trans hw171_9)⟩ (fun hHeld => ?_)
            clear hK K
            refine norm_ (a' := ?_) ?_ ?_
            rotate_left
            · show Act.put _ (some 21) _ = _
              simp only [Act.put, List.setIfInBounds_toArray, List.set_cons_zero, List.set_cons_succ, i64_w, i32_w]
              rfl
            refine done_ (by kernel_rfl) ?_
            try go_wp2
            go_roundg k1
            case measure => have := HK1.out; omega
            case rel => exact ⟨(x7_1), (wrap64 (x8_1 + 1)), (by first | rfl | (simp; done) | (simp [*]; done)), H', ⟨by have := HK1.out; omega⟩, ⟨by (with_reducible repeat (first | apply Kd.R_alloc | apply Kd.R_drewN | apply Kd.R_drew)); exact HO_7.out⟩, ⟨by (with_reducible repeat (first | refine blk_drewN ?_ _ | refine blk_drew ?_ | refine blk_alloc ?_ _)); exact BK170.out⟩, ⟨by repeat (first | (with_reducible first | exact HB.out | apply below_alloc | apply pw_below_drewN | apply below_drew1 | refine below_set ?_ GE170.out) | exact HB.out)⟩⟩
        · rw [if_neg c6] at H
          exact absurd H (by simp)
      · rw [if_neg c5] at H
        have c5b0 : decide (x8_1 < (l0.length : Int)) = false := decide_eq_false c5
        clear c5
        obtain rfl := Option.some.inj H
        go_wp2
        go_ret
        exact ⟨_, by first | rfl | (simp [errW_none, errW_some] <;> rfl) | (simp [*, errW_none, errW_some] <;> rfl), by (with_reducible repeat (first | apply Kd.R_alloc | apply Kd.R_drewN | apply Kd.R_drew)); exact Kd.R_mono HO_7.out (fun _ hk => trivial), by repeat (first | (with_reducible first | exact HB.out | apply below_alloc | apply pw_below_drewN | apply below_drew1 | refine below_set ?_ GE170.out) | exact HB.out)⟩

/-! ### chamberlainlaw19_LogKeeps: function 7 -/
mutual
def chamberlainlaw19_LogKeeps.j0 : Nat → List (S25) → Int → Bool → Int → Int → Int → Int → Int → Int → Int → Int → Int → Int → Option (Bool)
  | 0, _, _, _, _, _, _, _, _, _, _, _, _, _ => none
  | k + 1, x0, x2, x16, x178000, x178001, x178002, x178003, x178004, x178005, x178006, x178007, x178008, x178009 => if x16 = true then ((chamberlainlaw19_awake.f k).bind fun t179 => (some t179)) else ((some (([] : List (S25)) : List (S25))).bind fun y180 => (if y180.length + x0.length < 2513169434916 then ((some (y180 ++ x0 : List (S25))).bind fun y183 => ((log_Select.f k y183 x178000 x178001 x178002 x178003 x178004 x178005 x178006 x178007 x178008 x178009 (wrap64 (Int.tmod x2 512))).bind fun t186 => ((log_Match.f y183 y183 (wrap64 (Int.tmod x2 512))).bind fun t189 => ((chamberlainref12_Events.f k y183 x0).bind fun t190 => (if t190 = true then (chamberlainlaw19_LogKeeps.l0 k x0 x2 y183 t186 0 x178000 x178001 x178002 x178003 x178004 x178005 x178006 x178007 x178008 x178009) else (some false)))))) else (none)))
def chamberlainlaw19_LogKeeps.l0 : Nat → List (S25) → Int → List (S25) → List (S25) → Int → Int → Int → Int → Int → Int → Int → Int → Int → Int → Int → Option (Bool)
  | 0, _, _, _, _, _, _, _, _, _, _, _, _, _, _, _ => none
  | k + 1, x0, x2, x7, x8, x9, x178000, x178001, x178002, x178003, x178004, x178005, x178006, x178007, x178008, x178009 => if x9 < (x7.length : Int) then (if 0 ≤ x9 then (chamberlainlaw19_LogKeeps.l0 k x0 x2 (x7.set (x9 : Int).toNat (⟨0, 0, 0, 0, 0, 0, 0, 0, 0, 0⟩ : S25)) x8 (wrap64 (x9 + 1)) x178000 x178001 x178002 x178003 x178004 x178005 x178006 x178007 x178008 x178009) else (none)) else ((chamberlainref19_Select.f k x0 x178000 x178001 x178002 x178003 x178004 x178005 x178006 x178007 x178008 x178009 (wrap64 (Int.tmod x2 512))).bind fun t192 => ((chamberlainref12_Events.f k x8 t192).bind fun t195 => (some t195)))
end
def chamberlainlaw19_LogKeeps.f (k : Nat) (l0 : List (S25)) (a1_0 : Int) (a1_1 : Int) (a1_2 : Int) (a1_3 : Int) (a1_4 : Int) (a1_5 : Int) (a1_6 : Int) (a1_7 : Int) (a1_8 : Int) (a1_9 : Int) (a2 : Int) : Option (Bool) := (chamberlainlaw19_awake.f k).bind fun t178 => (if t178 = true then (chamberlainlaw19_LogKeeps.j0 k l0 a2 (decide ((l0.length : Int) > 100)) a1_0 a1_1 a1_2 a1_3 a1_4 a1_5 a1_6 a1_7 a1_8 a1_9) else (chamberlainlaw19_LogKeeps.j0 k l0 a2 true a1_0 a1_1 a1_2 a1_3 a1_4 a1_5 a1_6 a1_7 a1_8 a1_9))
theorem chamberlainlaw19_LogKeeps.mono_l : ∀ k, (∀ y0 y1 y2 y3 y4 y5 y6 y7 y8 y9 y10 y11 y12, LeO (chamberlainlaw19_LogKeeps.j0 k y0 y1 y2 y3 y4 y5 y6 y7 y8 y9 y10 y11 y12) (chamberlainlaw19_LogKeeps.j0 (k + 1) y0 y1 y2 y3 y4 y5 y6 y7 y8 y9 y10 y11 y12)) ∧ (∀ y0 y1 y2 y3 y4 y5 y6 y7 y8 y9 y10 y11 y12 y13 y14, LeO (chamberlainlaw19_LogKeeps.l0 k y0 y1 y2 y3 y4 y5 y6 y7 y8 y9 y10 y11 y12 y13 y14) (chamberlainlaw19_LogKeeps.l0 (k + 1) y0 y1 y2 y3 y4 y5 y6 y7 y8 y9 y10 y11 y12 y13 y14))
  | 0 => ⟨fun _ _ _ _ _ _ _ _ _ _ _ _ _ r h => by simp [chamberlainlaw19_LogKeeps.j0] at h, fun _ _ _ _ _ _ _ _ _ _ _ _ _ _ _ r h => by simp [chamberlainlaw19_LogKeeps.l0] at h⟩
  | k + 1 => by
    obtain ⟨ih0, ih1⟩ := chamberlainlaw19_LogKeeps.mono_l k
    refine ⟨?_, ?_⟩
    · intro y0 y1 y2 y3 y4 y5 y6 y7 y8 y9 y10 y11 y12
      unfold chamberlainlaw19_LogKeeps.j0
      repeat' first
      | (with_reducible exact ih0 _ _ _ _ _ _ _ _ _ _ _ _ _)
      | (with_reducible exact ih1 _ _ _ _ _ _ _ _ _ _ _ _ _ _ _)
      | (with_reducible exact chamberlainlaw19_awake.mono _)
      | (with_reducible exact chamberlainref12_Events.mono _ _ _)
      | (with_reducible exact chamberlainref19_Select.mono _ _ _ _ _ _ _ _ _ _ _ _ _)
      | (with_reducible exact log_Select.mono _ _ _ _ _ _ _ _ _ _ _ _ _)
      | (with_reducible exact LeO.refl _)
      | (with_reducible exact LeO.none _)
      | (with_reducible refine LeO.ite ?_ ?_)
      | (with_reducible refine LeO.bind ?_ (fun _ => ?_))
      | exact ih0 _ _ _ _ _ _ _ _ _ _ _ _ _
      | exact ih1 _ _ _ _ _ _ _ _ _ _ _ _ _ _ _
      | exact chamberlainlaw19_awake.mono _
      | exact chamberlainref12_Events.mono _ _ _
      | exact chamberlainref19_Select.mono _ _ _ _ _ _ _ _ _ _ _ _ _
      | exact log_Select.mono _ _ _ _ _ _ _ _ _ _ _ _ _
      | exact LeO.none _
      | refine LeO.ite ?_ ?_
      | refine LeO.bind ?_ (fun _ => ?_)
    · intro y0 y1 y2 y3 y4 y5 y6 y7 y8 y9 y10 y11 y12 y13 y14
      unfold chamberlainlaw19_LogKeeps.l0
      repeat' first
      | (with_reducible exact ih0 _ _ _ _ _ _ _ _ _ _ _ _ _)
      | (with_reducible exact ih1 _ _ _ _ _ _ _ _ _ _ _ _ _ _ _)
      | (with_reducible exact chamberlainlaw19_awake.mono _)
      | (with_reducible exact chamberlainref12_Events.mono _ _ _)
      | (with_reducible exact chamberlainref19_Select.mono _ _ _ _ _ _ _ _ _ _ _ _ _)
      | (with_reducible exact log_Select.mono _ _ _ _ _ _ _ _ _ _ _ _ _)
      | (with_reducible exact LeO.refl _)
      | (with_reducible exact LeO.none _)
      | (with_reducible refine LeO.ite ?_ ?_)
      | (with_reducible refine LeO.bind ?_ (fun _ => ?_))
      | exact ih0 _ _ _ _ _ _ _ _ _ _ _ _ _
      | exact ih1 _ _ _ _ _ _ _ _ _ _ _ _ _ _ _
      | exact chamberlainlaw19_awake.mono _
      | exact chamberlainref12_Events.mono _ _ _
      | exact chamberlainref19_Select.mono _ _ _ _ _ _ _ _ _ _ _ _ _
      | exact log_Select.mono _ _ _ _ _ _ _ _ _ _ _ _ _
      | exact LeO.none _
      | refine LeO.ite ?_ ?_
      | refine LeO.bind ?_ (fun _ => ?_)
theorem chamberlainlaw19_LogKeeps.mono : ∀ a0 a1 a2 a3 a4 a5 a6 a7 a8 a9 a10 a11 k, LeO (chamberlainlaw19_LogKeeps.f k a0 a1 a2 a3 a4 a5 a6 a7 a8 a9 a10 a11) (chamberlainlaw19_LogKeeps.f (k + 1) a0 a1 a2 a3 a4 a5 a6 a7 a8 a9 a10 a11) := by
  intro a0 a1 a2 a3 a4 a5 a6 a7 a8 a9 a10 a11 k
  obtain ⟨ih0, ih1⟩ := chamberlainlaw19_LogKeeps.mono_l k
  unfold chamberlainlaw19_LogKeeps.f
  repeat' first
      | (with_reducible exact ih0 _ _ _ _ _ _ _ _ _ _ _ _ _)
      | (with_reducible exact ih1 _ _ _ _ _ _ _ _ _ _ _ _ _ _ _)
      | (with_reducible exact chamberlainlaw19_awake.mono _)
      | (with_reducible exact chamberlainref12_Events.mono _ _ _)
      | (with_reducible exact chamberlainref19_Select.mono _ _ _ _ _ _ _ _ _ _ _ _ _)
      | (with_reducible exact log_Select.mono _ _ _ _ _ _ _ _ _ _ _ _ _)
      | (with_reducible exact LeO.refl _)
      | (with_reducible exact LeO.none _)
      | (with_reducible refine LeO.ite ?_ ?_)
      | (with_reducible refine LeO.bind ?_ (fun _ => ?_))
      | exact ih0 _ _ _ _ _ _ _ _ _ _ _ _ _
      | exact ih1 _ _ _ _ _ _ _ _ _ _ _ _ _ _ _
      | exact chamberlainlaw19_awake.mono _
      | exact chamberlainref12_Events.mono _ _ _
      | exact chamberlainref19_Select.mono _ _ _ _ _ _ _ _ _ _ _ _ _
      | exact log_Select.mono _ _ _ _ _ _ _ _ _ _ _ _ _
      | exact LeO.none _
      | refine LeO.ite ?_ ?_
      | refine LeO.bind ?_ (fun _ => ?_)
set_option maxHeartbeats 8000000 in
set_option maxRecDepth 100000 in
theorem chamberlainlaw19_LogKeeps.calls (k : Nat) (A0 : Option Addr) (c0 : Nat) (l0 : List (S25)) (a1_0 : Int) (a1_1 : Int) (a1_2 : Int) (a1_3 : Int) (a1_4 : Int) (a1_5 : Int) (a1_6 : Int) (a1_7 : Int) (a1_8 : Int) (a1_9 : Int) (a2 : Int) (r : Bool) (w : World) (hr0 : Kd.C k25 w A0 l0.length l0) (hc0 : l0.length ≤ c0) (h : chamberlainlaw19_LogKeeps.f k l0 a1_0 a1_1 a1_2 a1_3 a1_4 a1_5 a1_6 a1_7 a1_8 a1_9 a2 = some r) (hT0 : r = true) :
    Calls Try.prog 7 #[.slice A0 l0.length c0, .agg #[.int .i64 a1_0, .int .i64 a1_1, .int .i64 a1_2, .int .u32 a1_3, .int .u32 a1_4, .int .u32 a1_5, .int .u32 a1_6, .int .u32 a1_7, .int .u32 a1_8, .int .u32 a1_9], .int .u16 a2] w fun e w' => e = .returned (.bool r) ∧ Below w.heap.size w w' := by
  have hT := Aside0.mk hT0
  clear hT0
  have hu25 := Try.underlying25
  have HR0 := Aside0.mk hr0
  have HC0 := Aside0.mk hc0
  clear hr0 hc0
  have HB := Aside0.mk (Below.refl w.heap.size w)
  have H : ((chamberlainlaw19_awake.f k).bind fun t178 => (if t178 = true then (chamberlainlaw19_LogKeeps.j0 k l0 a2 (decide ((l0.length : Int) > 100)) a1_0 a1_1 a1_2 a1_3 a1_4 a1_5 a1_6 a1_7 a1_8 a1_9) else (chamberlainlaw19_LogKeeps.j0 k l0 a2 true a1_0 a1_1 a1_2 a1_3 a1_4 a1_5 a1_6 a1_7 a1_8 a1_9))) = some r := h
  clear h
  have HC4 := Aside0.mk H
  clear H
  go_enter Try.func7, Try.ntmps7
  go_upto_region 1 with (first | ((with_reducible refine gate_dst (N := 4) rfl ?_); (try (refine gate_guard (by rfl) ?_; dsimp only)); refine box_event ?hg (N := 4) ?hd (cs := #[.int .i64 a1_0, .int .i64 a1_1, .int .i64 a1_2, .int .u32 a1_3, .int .u32 a1_4, .int .u32 a1_5, .int .u32 a1_6, .int .u32 a1_7, .int .u32 a1_8, .int .u32 a1_9]) (t := 25) ?hr ?_; (case hd => rfl); (case hg => rfl); (case hr => first | (go_simp; done) | (go_simp; rfl)); intro gb177 hg w5 hbox hb; have n0_ := Aside0.mk (below_step (by repeat (first | (with_reducible first | exact HB.out | apply below_alloc | apply pw_below_drewN | apply below_drew1) | exact HB.out)) hb); have n1_ := Aside0.mk (hbox); have n2_ := Aside0.mk ((by rw [hg]; exact (below_size (by repeat (first | (with_reducible first | exact HB.out | apply below_alloc | apply pw_below_drewN | apply below_drew1) | exact HB.out))) : w.heap.size ≤ gb177)); have n3_ := Aside0.mk ((by rw [hg]; exact (below_size (by repeat (first | (with_reducible first | exact HB.out | apply below_alloc | apply pw_below_drewN | apply below_drew1) | exact HB.out))) : w.heap.size ≤ gb177)); clear HB; have HB := n0_; have BK177 := n1_; have GW177 := n2_; have GE177 := n3_; clear n0_ n1_ n2_ n3_; clear hb hbox hg))
  (try simp only [Act.put, List.setIfInBounds_toArray, List.set_cons_zero, List.set_cons_succ])
  go_cut [16] (fun v16 wc => ∃ (kq : Nat) (x16_3 : Bool), v16 = .bool x16_3 ∧ Aside0 (chamberlainlaw19_LogKeeps.j0 kq l0 a2 x16_3 a1_0 a1_1 a1_2 a1_3 a1_4 a1_5 a1_6 a1_7 a1_8 a1_9 = some r) ∧ Aside0 (kq ≤ k) ∧ Aside0 (wc.heap[gb177]? = some (.cells #[.int .i64 a1_0, .int .i64 a1_1, .int .i64 a1_2, .int .u32 a1_3, .int .u32 a1_4, .int .u32 a1_5, .int .u32 a1_6, .int .u32 a1_7, .int .u32 a1_8, .int .u32 a1_9] 25 (0, 0))) ∧ Aside0 (Below w.heap.size w wc))
  case first =>
    have H := HC4.out
    clear HC4
    replace H := Option.bind_eq_some_iff.mp H
    obtain ⟨t178, A60, H⟩ := H
    replace H : (if t178 = true then (chamberlainlaw19_LogKeeps.j0 k l0 a2 (decide ((l0.length : Int) > 100)) a1_0 a1_1 a1_2 a1_3 a1_4 a1_5 a1_6 a1_7 a1_8 a1_9) else (chamberlainlaw19_LogKeeps.j0 k l0 a2 true a1_0 a1_1 a1_2 a1_3 a1_4 a1_5 a1_6 a1_7 a1_8 a1_9)) = some r := H
    have A6 := Aside0.mk A60
    clear A60
    by_cases c7 : t178 = true
    · subst c7
      have H1 : (chamberlainlaw19_LogKeeps.j0 k l0 a2 (decide ((l0.length : Int) > 100)) a1_0 a1_1 a1_2 a1_3 a1_4 a1_5 a1_6 a1_7 a1_8 a1_9) = some r := by rw [if_pos rfl] at H; exact H
      clear H
      have H := H1
      clear H1
      have H' := Aside0.mk H
      clear H
      go_wp2_with (first | ((with_reducible refine gate_callee (f := 9) rfl ?_); refine goesL_ (some 10) rfl rfl Try.func9 (by kernel_rfl) rfl #[] rfl (by (try simp only [List.map_toArray, List.map_cons, List.map_nil]); first | done | rfl | (simp only [List.length_drop, List.length_take]; rfl)) ?_; (with_reducible refine (chamberlainlaw19_awake.calls k  true _ A6.out).mono ?_); rintro e w8 ⟨rfl, hb⟩; refine ⟨_, rfl, ?_⟩; have n0_ := Aside0.mk (blk_below (g := gb177) (o := .cells #[.int .i64 a1_0, .int .i64 a1_1, .int .i64 a1_2, .int .u32 a1_3, .int .u32 a1_4, .int .u32 a1_5, .int .u32 a1_6, .int .u32 a1_7, .int .u32 a1_8, .int .u32 a1_9] 25 (0, 0)) (by (with_reducible repeat (first | refine blk_drewN ?_ _ | refine blk_drew ?_ | refine blk_alloc ?_ _)); exact BK177.out) hb); have n1_ := Aside0.mk (below_step (by repeat (first | (with_reducible first | exact HB.out | apply below_alloc | apply pw_below_drewN | apply below_drew1 | refine below_set ?_ GE177.out) | exact HB.out)) hb); clear BK177; clear HB; have BK177 := n0_; have HB := n1_; clear n0_ n1_; (try clear hb); (try clear hb2); (try clear hk); (try clear hi)))
      go_meet
      case rel => exact ⟨_, (decide ((l0.length : Int) > 100)), (by first | rfl | (simp; done) | (simp [*]; done)), H', ⟨by first | omega | exact Nat.le_refl _⟩, ⟨by (with_reducible repeat (first | refine blk_drewN ?_ _ | refine blk_drew ?_ | refine blk_alloc ?_ _)); exact BK177.out⟩, ⟨by repeat (first | (with_reducible first | exact HB.out | apply below_alloc | apply pw_below_drewN | apply below_drew1 | refine below_set ?_ GE177.out) | exact HB.out)⟩⟩
    · replace c7 := Bool.eq_false_iff.mpr c7
      subst c7
      have H1 : (chamberlainlaw19_LogKeeps.j0 k l0 a2 true a1_0 a1_1 a1_2 a1_3 a1_4 a1_5 a1_6 a1_7 a1_8 a1_9) = some r := by rw [if_neg (show ¬ (false = true) by decide)] at H; exact H
      clear H
      have H := H1
      clear H1
      have H' := Aside0.mk H
      clear H
      go_wp2_with (first | ((with_reducible refine gate_callee (f := 9) rfl ?_); refine goesL_ (some 10) rfl rfl Try.func9 (by kernel_rfl) rfl #[] rfl (by (try simp only [List.map_toArray, List.map_cons, List.map_nil]); first | done | rfl | (simp only [List.length_drop, List.length_take]; rfl)) ?_; (with_reducible refine (chamberlainlaw19_awake.calls k  false _ A6.out).mono ?_); rintro e w9 ⟨rfl, hb⟩; refine ⟨_, rfl, ?_⟩; have n0_ := Aside0.mk (blk_below (g := gb177) (o := .cells #[.int .i64 a1_0, .int .i64 a1_1, .int .i64 a1_2, .int .u32 a1_3, .int .u32 a1_4, .int .u32 a1_5, .int .u32 a1_6, .int .u32 a1_7, .int .u32 a1_8, .int .u32 a1_9] 25 (0, 0)) (by (with_reducible repeat (first | refine blk_drewN ?_ _ | refine blk_drew ?_ | refine blk_alloc ?_ _)); exact BK177.out) hb); have n1_ := Aside0.mk (below_step (by repeat (first | (with_reducible first | exact HB.out | apply below_alloc | apply pw_below_drewN | apply below_drew1 | refine below_set ?_ GE177.out) | exact HB.out)) hb); clear BK177; clear HB; have BK177 := n0_; have HB := n1_; clear n0_ n1_; (try clear hb); (try clear hb2); (try clear hk); (try clear hi)))
      go_meet
      case rel => exact ⟨_, (true), (by first | rfl | (simp; done) | (simp [*]; done)), H', ⟨by first | omega | exact Nat.le_refl _⟩, ⟨by (with_reducible repeat (first | refine blk_drewN ?_ _ | refine blk_drew ?_ | refine blk_alloc ?_ _)); exact BK177.out⟩, ⟨by repeat (first | (with_reducible first | exact HB.out | apply below_alloc | apply pw_below_drewN | apply below_drew1 | refine below_set ?_ GE177.out) | exact HB.out)⟩⟩
  case rest =>
    clear HC4
    try clear p2
    try clear c7
    try clear c9
    obtain ⟨kq, x16_3, rfl, HA, HJ3, BK177, HB⟩ := hcut
    cases kq with
    | zero => exact absurd HA.out (by simp [chamberlainlaw19_LogKeeps.j0])
    | succ kj3 =>
      have H := HA.out
      clear HA
      simp only [chamberlainlaw19_LogKeeps.j0] at H
      by_cases c10 : x16_3 = true
      · subst c10
        have H1 : ((chamberlainlaw19_awake.f kj3).bind fun t179 => (some t179)) = some r := by rw [if_pos rfl] at H; exact H
        clear H
        have H := H1
        clear H1
        replace H := Option.bind_eq_some_iff.mp H
        obtain ⟨t179, A110, H⟩ := H
        replace H : (some t179) = some r := H
        have A11 := Aside0.mk A110
        clear A110
        obtain rfl := Option.some.inj H
        go_wp2_with (first | ((with_reducible refine gate_callee (f := 9) rfl ?_); refine goesL_ (some 17) rfl rfl Try.func9 (by kernel_rfl) rfl #[] rfl (by (try simp only [List.map_toArray, List.map_cons, List.map_nil]); first | done | rfl | (simp only [List.length_drop, List.length_take]; rfl)) ?_; (with_reducible refine (chamberlainlaw19_awake.calls kj3  t179 _ A11.out).mono ?_); rintro e w12 ⟨rfl, hb⟩; refine ⟨_, rfl, ?_⟩; have n0_ := Aside0.mk (blk_below (g := gb177) (o := .cells #[.int .i64 a1_0, .int .i64 a1_1, .int .i64 a1_2, .int .u32 a1_3, .int .u32 a1_4, .int .u32 a1_5, .int .u32 a1_6, .int .u32 a1_7, .int .u32 a1_8, .int .u32 a1_9] 25 (0, 0)) (by (with_reducible repeat (first | refine blk_drewN ?_ _ | refine blk_drew ?_ | refine blk_alloc ?_ _)); exact BK177.out) hb); have n1_ := Aside0.mk (below_step (by repeat (first | (with_reducible first | exact HB.out | apply below_alloc | apply pw_below_drewN | apply below_drew1 | refine below_set ?_ GE177.out) | exact HB.out)) hb); clear BK177; clear HB; have BK177 := n0_; have HB := n1_; clear n0_ n1_; (try clear hb); (try clear hb2); (try clear hk); (try clear hi)))
        go_ret
        exact ⟨by first | rfl | (simp [errW_none, errW_some] <;> rfl) | (simp [*, errW_none, errW_some] <;> rfl), by repeat (first | (with_reducible first | exact HB.out | apply below_alloc | apply pw_below_drewN | apply below_drew1 | refine below_set ?_ GE177.out) | exact HB.out)⟩
      · replace c10 := Bool.eq_false_iff.mpr c10
        subst c10
        have H1 : ((some (([] : List (S25)) : List (S25))).bind fun y180 => (if y180.length + l0.length < 2513169434916 then ((some (y180 ++ l0 : List (S25))).bind fun y183 => ((log_Select.f kj3 y183 a1_0 a1_1 a1_2 a1_3 a1_4 a1_5 a1_6 a1_7 a1_8 a1_9 (wrap64 (Int.tmod a2 512))).bind fun t186 => ((log_Match.f y183 y183 (wrap64 (Int.tmod a2 512))).bind fun t189 => ((chamberlainref12_Events.f kj3 y183 l0).bind fun t190 => (if t190 = true then (chamberlainlaw19_LogKeeps.l0 kj3 l0 a2 y183 t186 0 a1_0 a1_1 a1_2 a1_3 a1_4 a1_5 a1_6 a1_7 a1_8 a1_9) else (some false)))))) else (none))) = some r := by rw [if_neg (show ¬ (false = true) by decide)] at H; exact H
        clear H
        have H := H1
        clear H1
        obtain ⟨y180, hy180⟩ : ∃ y_ : List (S25), y_ = (([] : List (S25))) := ⟨_, rfl⟩
        replace H : (if y180.length + l0.length < 2513169434916 then ((some (y180 ++ l0 : List (S25))).bind fun y183 => ((log_Select.f kj3 y183 a1_0 a1_1 a1_2 a1_3 a1_4 a1_5 a1_6 a1_7 a1_8 a1_9 (wrap64 (Int.tmod a2 512))).bind fun t186 => ((log_Match.f y183 y183 (wrap64 (Int.tmod a2 512))).bind fun t189 => ((chamberlainref12_Events.f kj3 y183 l0).bind fun t190 => (if t190 = true then (chamberlainlaw19_LogKeeps.l0 kj3 l0 a2 y183 t186 0 a1_0 a1_1 a1_2 a1_3 a1_4 a1_5 a1_6 a1_7 a1_8 a1_9) else (some false)))))) else (none)) = some r := by first | (rw [hy180]; with_reducible exact H) | (have H2_ := (Option.bind_some _ _).symm.trans H; rw [hy180]; with_reducible exact H2_) | (have H2_ := (Option.bind_some _ _).symm.trans H; with_reducible exact H2_) | with_reducible exact H | (rw [hy180]; exact H) | exact H
        have Ny180 := Aside0.mk hy180
        clear hy180
        by_cases c13 : y180.length + l0.length < 2513169434916
        · rw [if_pos c13] at H
          have LMc13 := Aside0.mk c13
          clear c13
          obtain ⟨y183, hy183⟩ : ∃ y_ : List (S25), y_ = (y180 ++ l0) := ⟨_, rfl⟩
          replace H : ((log_Select.f kj3 y183 a1_0 a1_1 a1_2 a1_3 a1_4 a1_5 a1_6 a1_7 a1_8 a1_9 (wrap64 (Int.tmod a2 512))).bind fun t186 => ((log_Match.f y183 y183 (wrap64 (Int.tmod a2 512))).bind fun t189 => ((chamberlainref12_Events.f kj3 y183 l0).bind fun t190 => (if t190 = true then (chamberlainlaw19_LogKeeps.l0 kj3 l0 a2 y183 t186 0 a1_0 a1_1 a1_2 a1_3 a1_4 a1_5 a1_6 a1_7 a1_8 a1_9) else (some false))))) = some r := by first | (rw [hy183]; with_reducible exact H) | (have H2_ := (Option.bind_some _ _).symm.trans H; rw [hy183]; with_reducible exact H2_) | (have H2_ := (Option.bind_some _ _).symm.trans H; with_reducible exact H2_) | with_reducible exact H | (rw [hy183]; exact H) | exact H
          have Ny183 := Aside0.mk hy183
          clear hy183
          replace H := Option.bind_eq_some_iff.mp H
          obtain ⟨t186, A140, H⟩ := H
          replace H : ((log_Match.f y183 y183 (wrap64 (Int.tmod a2 512))).bind fun t189 => ((chamberlainref12_Events.f kj3 y183 l0).bind fun t190 => (if t190 = true then (chamberlainlaw19_LogKeeps.l0 kj3 l0 a2 y183 t186 0 a1_0 a1_1 a1_2 a1_3 a1_4 a1_5 a1_6 a1_7 a1_8 a1_9) else (some false)))) = some r := H
          have A14 := Aside0.mk A140
          clear A140
          replace H := Option.bind_eq_some_iff.mp H
          obtain ⟨t189, A150, H⟩ := H
          replace H : ((chamberlainref12_Events.f kj3 y183 l0).bind fun t190 => (if t190 = true then (chamberlainlaw19_LogKeeps.l0 kj3 l0 a2 y183 t186 0 a1_0 a1_1 a1_2 a1_3 a1_4 a1_5 a1_6 a1_7 a1_8 a1_9) else (some false))) = some r := H
          have A15 := Aside0.mk A150
          clear A150
          replace H := Option.bind_eq_some_iff.mp H
          obtain ⟨t190, A160, H⟩ := H
          replace H : (if t190 = true then (chamberlainlaw19_LogKeeps.l0 kj3 l0 a2 y183 t186 0 a1_0 a1_1 a1_2 a1_3 a1_4 a1_5 a1_6 a1_7 a1_8 a1_9) else (some false)) = some r := H
          have A16 := Aside0.mk A160
          clear A160
          by_cases c17 : t190 = true
          · subst c17
            have H1 : (chamberlainlaw19_LogKeeps.l0 kj3 l0 a2 y183 t186 0 a1_0 a1_1 a1_2 a1_3 a1_4 a1_5 a1_6 a1_7 a1_8 a1_9) = some r := by rw [if_pos rfl] at H; exact H
            clear H
            have H := H1
            clear H1
            have H' := Aside0.mk H
            clear H
            go_wp2_with (first | ((with_reducible refine gate_dst (N := 18) rfl ?_); (try (refine gate_guard (by rfl) ?_; dsimp only)); refine Kd.R_lit k25 _ 25 ?hg (N := 18) ?hd (xs := ([] : List (S25))) (inner := []) (ok := fun _ => True) (okp := fun _ => True) ?hr ?hp (fun _ hk => hk) trivial (Below.refl _ _) (Nat.le_refl _) (by simp) ?_; (case hd => rfl); (case hg => rfl); (case hr => first | (go_simp; done) | (go_simp; rfl)); (case hp => exact (Reps.none _ _)); intro v181 w18 ho19 hb hg_ hnew_; clear hg_ hnew_; (first | rw [← Ny180.out] at ho19 | (simp only [Int.reduceToNat] at ho19; rw [← Ny180.out] at ho19)); have n0_ := Aside0.mk (Kd.R_lower (Kd.R_newB ho19 (g := gb177) (o := .cells #[.int .i64 a1_0, .int .i64 a1_1, .int .i64 a1_2, .int .u32 a1_3, .int .u32 a1_4, .int .u32 a1_5, .int .u32 a1_6, .int .u32 a1_7, .int .u32 a1_8, .int .u32 a1_9] 25 (0, 0)) (by (with_reducible repeat (first | refine blk_drewN ?_ _ | refine blk_drew ?_ | refine blk_alloc ?_ _)); exact BK177.out)) (below_size (by repeat (first | (with_reducible first | exact HB.out | apply below_alloc | apply pw_below_drewN | apply below_drew1 | refine below_set ?_ GE177.out) | exact HB.out)))); have n1_ := Aside0.mk (blk_below (g := gb177) (o := .cells #[.int .i64 a1_0, .int .i64 a1_1, .int .i64 a1_2, .int .u32 a1_3, .int .u32 a1_4, .int .u32 a1_5, .int .u32 a1_6, .int .u32 a1_7, .int .u32 a1_8, .int .u32 a1_9] 25 (0, 0)) (by (with_reducible repeat (first | refine blk_drewN ?_ _ | refine blk_drew ?_ | refine blk_alloc ?_ _)); exact BK177.out) hb); have n2_ := Aside0.mk (below_step (by repeat (first | (with_reducible first | exact HB.out | apply below_alloc | apply pw_below_drewN | apply below_drew1 | refine below_set ?_ GE177.out) | exact HB.out)) hb); clear BK177; clear HB; have HO182 := n0_; have BK177 := n1_; have HB := n2_; clear n0_ n1_ n2_; clear hb ho19) | ((with_reducible refine gate_builtin (b := .append) (xs := #[.tmp 18, .tmp 19]) rfl ?_); (try (refine gate_guard (by rfl) ?_; dsimp only)); at_builtin; refine Kd.R_append_rows k25 (w0 := w) w.heap.size rfl (.tmp 18) (.tmp 19) 22 25 (.agg #[(.int .i64 0), (.int .i64 0), (.int .i64 0), (.int .u32 0), (.int .u32 0), (.int .u32 0), (.int .u32 0), (.int .u32 0), (.int .u32 0), (.int .u32 0)]) 56 rfl Try.underlying22 info25 rfl (by decide) (by omega) v181 y180 l0 _ _ _ (fun k_ => k_ ≠ gb177) (fun _ => False) rfl rfl ?aO ?aR (fun _ _ h => h) (fun _ h => h.elim) ?aF ?aB ?aS ?aL ?_; (case aR => repeat (first | exact (Kd.C_below HR0.out HB.out) | (with_reducible refine Kd.C_alloc ?_ _) | (with_reducible refine Kd.C_drewN ?_ _) | (with_reducible refine Kd.C_drew ?_))); (case aB => exact (by repeat (first | (with_reducible first | exact HB.out | apply below_alloc | apply pw_below_drewN | apply below_drew1 | refine below_set ?_ GE177.out) | exact HB.out))); (case aF => exact (fun k_ hk => Kd.freshB (g := gb177) (o := .cells #[.int .i64 a1_0, .int .i64 a1_1, .int .i64 a1_2, .int .u32 a1_3, .int .u32 a1_4, .int .u32 a1_5, .int .u32 a1_6, .int .u32 a1_7, .int .u32 a1_8, .int .u32 a1_9] 25 (0, 0)) (by (with_reducible repeat (first | refine blk_drewN ?_ _ | refine blk_drew ?_ | refine blk_alloc ?_ _)); exact BK177.out) k_ hk)); (case aO => exact (by (with_reducible repeat (first | apply Kd.R_alloc | apply Kd.R_drewN | apply Kd.R_drew)); exact Kd.R_mono HO182.out (fun _ hk => hk.2))); (case aS => exact (below_size (by repeat (first | (with_reducible first | exact HB.out | apply below_alloc | apply pw_below_drewN | apply below_drew1 | refine below_set ?_ GE177.out) | exact HB.out)))); (case aL => have := LMc13.out; omega); intro v184 w20 ho hb hg hat; rw [← Ny183.out] at ho; have n0_ := Aside0.mk (blk_grown (g := gb177) (o := .cells #[.int .i64 a1_0, .int .i64 a1_1, .int .i64 a1_2, .int .u32 a1_3, .int .u32 a1_4, .int .u32 a1_5, .int .u32 a1_6, .int .u32 a1_7, .int .u32 a1_8, .int .u32 a1_9] 25 (0, 0)) (by (with_reducible repeat (first | refine blk_drewN ?_ _ | refine blk_drew ?_ | refine blk_alloc ?_ _)); exact BK177.out) hg (Kd.R_away HO182.out (fun _ hk => hk.2))); have n1_ := Aside0.mk (hb); have n2_ := Aside0.mk (ho); clear BK177; clear HB; clear HO182; have BK177 := n0_; have HB := n1_; have HO185 := n2_; clear n0_ n1_ n2_; clear ho hb hg hat; have hcz21_0 : w20.cell? ⟨gb177, 0, none⟩ = some (.int .i64 a1_0) := (blk_cell BK177.out 0).trans rfl; have hcz21_1 : w20.cell? ⟨gb177, 1, none⟩ = some (.int .i64 a1_1) := (blk_cell BK177.out 1).trans rfl; have hcz21_2 : w20.cell? ⟨gb177, 2, none⟩ = some (.int .i64 a1_2) := (blk_cell BK177.out 2).trans rfl; have hcz21_3 : w20.cell? ⟨gb177, 3, none⟩ = some (.int .u32 a1_3) := (blk_cell BK177.out 3).trans rfl; have hcz21_4 : w20.cell? ⟨gb177, 4, none⟩ = some (.int .u32 a1_4) := (blk_cell BK177.out 4).trans rfl; have hcz21_5 : w20.cell? ⟨gb177, 5, none⟩ = some (.int .u32 a1_5) := (blk_cell BK177.out 5).trans rfl; have hcz21_6 : w20.cell? ⟨gb177, 6, none⟩ = some (.int .u32 a1_6) := (blk_cell BK177.out 6).trans rfl; have hcz21_7 : w20.cell? ⟨gb177, 7, none⟩ = some (.int .u32 a1_7) := (blk_cell BK177.out 7).trans rfl; have hcz21_8 : w20.cell? ⟨gb177, 8, none⟩ = some (.int .u32 a1_8) := (blk_cell BK177.out 8).trans rfl; have hcz21_9 : w20.cell? ⟨gb177, 9, none⟩ = some (.int .u32 a1_9) := (blk_cell BK177.out 9).trans rfl; have hfz21_0 := blk_frozen BK177.out 0; have hfz21_1 := blk_frozen BK177.out 1; have hfz21_2 := blk_frozen BK177.out 2; have hfz21_3 := blk_frozen BK177.out 3; have hfz21_4 := blk_frozen BK177.out 4; have hfz21_5 := blk_frozen BK177.out 5; have hfz21_6 := blk_frozen BK177.out 6; have hfz21_7 := blk_frozen BK177.out 7; have hfz21_8 := blk_frozen BK177.out 8; have hfz21_9 := blk_frozen BK177.out 9; obtain ⟨Ao22, co22, eo22⟩ := Kd.R_slice HO185.out; subst eo22) | ((with_reducible refine gate_callee (f := 13) rfl ?_); refine goesL_ (some 26) rfl rfl Try.func13 (by kernel_rfl) rfl #[.slice Ao22 y183.length co22, .agg #[.int .i64 a1_0, .int .i64 a1_1, .int .i64 a1_2, .int .u32 a1_3, .int .u32 a1_4, .int .u32 a1_5, .int .u32 a1_6, .int .u32 a1_7, .int .u32 a1_8, .int .u32 a1_9], .int .i64 (wrap64 (Int.tmod a2 512))] rfl (by (try simp only [List.map_toArray, List.map_cons, List.map_nil]); first | done | rfl | (simp only [List.length_drop, List.length_take]; rfl)) ?_; (with_reducible refine (log_Select.calls kj3 _ _ y183 a1_0 a1_1 a1_2 a1_3 a1_4 a1_5 a1_6 a1_7 a1_8 a1_9 (wrap64 (Int.tmod a2 512)) t186 _ ?side1 ?side2 A14.out).mono ?_); (case side1 => repeat (first | exact (Kd.R_reads' HO185.out).2.2 | (with_reducible refine Kd.C_alloc ?_ _) | (with_reducible refine Kd.C_drewN ?_ _) | (with_reducible refine Kd.C_drew ?_))); (case side2 => exact (Kd.R_reads' HO185.out).2.1); rintro e w23 ⟨v187, rfl, ho0, hb⟩; refine ⟨_, rfl, ?_⟩; have n0_ := Aside0.mk (Kd.R_elder' (by (with_reducible repeat (first | apply Kd.R_alloc | apply Kd.R_drewN | apply Kd.R_drew)); exact HO185.out) (Kd.R_base ho0) hb); have n1_ := Aside0.mk (Kd.R_lower (Kd.R_newB (Kd.R_new' ho0 (Kd.R_lt (by (with_reducible repeat (first | apply Kd.R_alloc | apply Kd.R_drewN | apply Kd.R_drew)); exact HO185.out))) (g := gb177) (o := .cells #[.int .i64 a1_0, .int .i64 a1_1, .int .i64 a1_2, .int .u32 a1_3, .int .u32 a1_4, .int .u32 a1_5, .int .u32 a1_6, .int .u32 a1_7, .int .u32 a1_8, .int .u32 a1_9] 25 (0, 0)) (by (with_reducible repeat (first | refine blk_drewN ?_ _ | refine blk_drew ?_ | refine blk_alloc ?_ _)); exact BK177.out)) (below_size (by repeat (first | (with_reducible first | exact HB.out | apply below_alloc | apply pw_below_drewN | apply below_drew1 | refine below_set ?_ GE177.out) | exact HB.out)))); have n2_ := Aside0.mk (blk_below (g := gb177) (o := .cells #[.int .i64 a1_0, .int .i64 a1_1, .int .i64 a1_2, .int .u32 a1_3, .int .u32 a1_4, .int .u32 a1_5, .int .u32 a1_6, .int .u32 a1_7, .int .u32 a1_8, .int .u32 a1_9] 25 (0, 0)) (by (with_reducible repeat (first | refine blk_drewN ?_ _ | refine blk_drew ?_ | refine blk_alloc ?_ _)); exact BK177.out) hb); have n3_ := Aside0.mk (below_step (by repeat (first | (with_reducible first | exact HB.out | apply below_alloc | apply pw_below_drewN | apply below_drew1 | refine below_set ?_ GE177.out) | exact HB.out)) hb); clear HO185; clear BK177; clear HB; have HO185 := n0_; have HO188 := n1_; have BK177 := n2_; have HB := n3_; clear n0_ n1_ n2_ n3_; (try clear hb); (try clear hb2); (try clear hk); (try clear hi); (try clear ho0)) | ((with_reducible refine gate_callee (f := 15) rfl ?_); refine goesL_ (some 32) rfl rfl Try.func15 (by kernel_rfl) rfl #[.slice Ao22 y183.length co22, .slice Ao22 y183.length co22, .int .i64 (wrap64 (Int.tmod a2 512))] rfl (by (try simp only [List.map_toArray, List.map_cons, List.map_nil]); first | done | rfl | (simp only [List.length_drop, List.length_take]; rfl)) ?_; (with_reducible refine (log_Match.calls _ _ y183 _ _ y183 (wrap64 (Int.tmod a2 512)) t189 _ ?side1 ?side2 ?side3 ?side4 A15.out).mono ?_); (case side1 => repeat (first | exact (Kd.R_reads' HO185.out).2.2 | (with_reducible refine Kd.C_alloc ?_ _) | (with_reducible refine Kd.C_drewN ?_ _) | (with_reducible refine Kd.C_drew ?_))); (case side2 => exact (Kd.R_reads' HO185.out).2.1); (case side3 => repeat (first | exact (Kd.R_reads' HO185.out).2.2 | (with_reducible refine Kd.C_alloc ?_ _) | (with_reducible refine Kd.C_drewN ?_ _) | (with_reducible refine Kd.C_drew ?_))); (case side4 => exact (Kd.R_reads' HO185.out).2.1); rintro e w24 ⟨rfl, hb⟩; refine ⟨_, rfl, ?_⟩; have n0_ := Aside0.mk (Kd.R_below (by (with_reducible repeat (first | apply Kd.R_alloc | apply Kd.R_drewN | apply Kd.R_drew)); exact HO185.out) hb); have n1_ := Aside0.mk (Kd.R_below (by (with_reducible repeat (first | apply Kd.R_alloc | apply Kd.R_drewN | apply Kd.R_drew)); exact HO188.out) hb); have n2_ := Aside0.mk (blk_below (g := gb177) (o := .cells #[.int .i64 a1_0, .int .i64 a1_1, .int .i64 a1_2, .int .u32 a1_3, .int .u32 a1_4, .int .u32 a1_5, .int .u32 a1_6, .int .u32 a1_7, .int .u32 a1_8, .int .u32 a1_9] 25 (0, 0)) (by (with_reducible repeat (first | refine blk_drewN ?_ _ | refine blk_drew ?_ | refine blk_alloc ?_ _)); exact BK177.out) hb); have n3_ := Aside0.mk (below_step (by repeat (first | (with_reducible first | exact HB.out | apply below_alloc | apply pw_below_drewN | apply below_drew1 | refine below_set ?_ GE177.out) | exact HB.out)) hb); clear HO185; clear HO188; clear BK177; clear HB; have HO185 := n0_; have HO188 := n1_; have BK177 := n2_; have HB := n3_; clear n0_ n1_ n2_ n3_; (try clear hb); (try clear hb2); (try clear hk); (try clear hi)) | ((with_reducible refine gate_callee (f := 12) rfl ?_); refine goesL_ (some 35) rfl rfl Try.func12 (by kernel_rfl) rfl #[.slice Ao22 y183.length co22, .slice A0 l0.length c0] rfl (by (try simp only [List.map_toArray, List.map_cons, List.map_nil]); first | done | rfl | (simp only [List.length_drop, List.length_take]; rfl)) ?_; (with_reducible refine (chamberlainref12_Events.calls kj3 _ _ y183 _ _ l0 true _ ?side1 ?side2 ?side3 ?side4 A16.out).mono ?_); (case side1 => repeat (first | exact (Kd.R_reads' HO185.out).2.2 | (with_reducible refine Kd.C_alloc ?_ _) | (with_reducible refine Kd.C_drewN ?_ _) | (with_reducible refine Kd.C_drew ?_))); (case side2 => exact (Kd.R_reads' HO185.out).2.1); (case side3 => repeat (first | exact (Kd.C_below HR0.out HB.out) | (with_reducible refine Kd.C_alloc ?_ _) | (with_reducible refine Kd.C_drewN ?_ _) | (with_reducible refine Kd.C_drew ?_))); (case side4 => exact HC0.out); rintro e w' ⟨rfl, ⟨nd, rfl⟩⟩; refine ⟨_, rfl, ?_⟩))
            go_loopg [9] kj3 (fun kq v9 w' => ∃ (x7_2 : List (S25)) (x9_2 : Int) (x178000_2 : Int) (x178001_2 : Int) (x178002_2 : Int) (x178003_2 : Int) (x178004_2 : Int) (x178005_2 : Int) (x178006_2 : Int) (x178007_2 : Int) (x178008_2 : Int) (x178009_2 : Int), v9 = .int .i64 x9_2 ∧ Aside0 (chamberlainlaw19_LogKeeps.l0 kq l0 a2 x7_2 t186 x9_2 x178000_2 x178001_2 x178002_2 x178003_2 x178004_2 x178005_2 x178006_2 x178007_2 x178008_2 x178009_2 = some r) ∧ Aside0 (kq ≤ kj3) ∧ Aside0 (Kd.R k25 25 w' w.heap.size (fun k_ => some k_ ≠ (v187 : Value).ownBlock ∧ k_ ≠ gb177) (.slice Ao22 y183.length co22) x7_2) ∧ Aside0 (Kd.R k25 25 w' w.heap.size (fun k_ => some k_ ≠ ((.slice Ao22 y183.length co22) : Value).ownBlock ∧ k_ ≠ gb177) v187 t186) ∧ Aside0 (w'.heap[gb177]? = some (.cells #[.int .i64 x178000_2, .int .i64 x178001_2, .int .i64 x178002_2, .int .u32 x178003_2, .int .u32 x178004_2, .int .u32 x178005_2, .int .u32 x178006_2, .int .u32 x178007_2, .int .u32 x178008_2, .int .u32 x178009_2] 25 (0, 0))) ∧ Aside0 (Below w.heap.size w w'))
            case atStart => exact ⟨(y183), (0), (a1_0), (a1_1), (a1_2), (a1_3), (a1_4), (a1_5), (a1_6), (a1_7), (a1_8), (a1_9), (by first | rfl | (simp; done) | (simp [*]; done)), H', ⟨Nat.le_refl _⟩, ⟨by (with_reducible repeat (first | apply Kd.R_alloc | apply Kd.R_drewN | apply Kd.R_drew)); exact Kd.R_mono HO185.out (fun _ hk => ⟨hk.2, hk.1⟩)⟩, ⟨by (with_reducible repeat (first | apply Kd.R_alloc | apply Kd.R_drewN | apply Kd.R_drew)); exact Kd.R_mono HO188.out (fun _ hk => ⟨hk.1.2, hk.2⟩)⟩, ⟨by (with_reducible repeat (first | refine blk_drewN ?_ _ | refine blk_drew ?_ | refine blk_alloc ?_ _)); exact BK177.out⟩, ⟨by repeat (first | (with_reducible first | exact HB.out | apply below_alloc | apply pw_below_drewN | apply below_drew1 | refine below_set ?_ GE177.out) | exact HB.out)⟩⟩
            case round =>
              clear H'
              try clear c1
              try clear p2
              try clear p6
              try clear c7
              try clear c9
              try clear c10
              try clear c12
              try clear c13
              try clear c15
              try clear c17
              try clear hcz21_0
              try clear hcz21_1
              try clear hcz21_2
              try clear hcz21_3
              try clear hcz21_4
              try clear hcz21_5
              try clear hcz21_6
              try clear hcz21_7
              try clear hcz21_8
              try clear hcz21_9
              try clear hfz21_0
              try clear hfz21_1
              try clear hfz21_2
              try clear hfz21_3
              try clear hfz21_4
              try clear hfz21_5
              try clear hfz21_6
              try clear hfz21_7
              try clear hfz21_8
              try clear hfz21_9
              try clear p2
              obtain ⟨x7_2, x9_2, x178000_2, x178001_2, x178002_2, x178003_2, x178004_2, x178005_2, x178006_2, x178007_2, x178008_2, x178009_2, rfl, HA, HK2, HO_7, HO_8, BK177, HB⟩ := hrel
              have hl7_2 := (Kd.R_reads' HO_7.out).1
              rw [hl7_2] at HO_7
              (try simp only [hl7_2])
              (try simp only [hl7_2] at BK177)
              (try simp only [hl7_2] at HO_8)
              cases gk with
              | zero => exact absurd HA.out (by simp [chamberlainlaw19_LogKeeps.l0])
              | succ k2 =>
                have H := HA.out
                clear HA
                simp only [chamberlainlaw19_LogKeeps.l0] at H
                by_cases c25 : x9_2 < (x7_2.length : Int)
                · rw [if_pos c25] at H
                  have c25b0 : decide (x9_2 < (x7_2.length : Int)) = true := decide_eq_true c25
                  clear c25
                  by_cases c26 : 0 ≤ x9_2
                  · rw [if_pos c26] at H
                    have c26b0 : decide (0 ≤ x9_2) = true := decide_eq_true c26
                    clear c26
                    obtain ⟨y191, hy191⟩ : ∃ y_ : List (S25), y_ = (x7_2.set (x9_2 : Int).toNat (⟨0, 0, 0, 0, 0, 0, 0, 0, 0, 0⟩ : S25)) := ⟨_, rfl⟩
                    replace H : (chamberlainlaw19_LogKeeps.l0 k2 l0 a2 y191 t186 (wrap64 (x9_2 + 1)) x178000_2 x178001_2 x178002_2 x178003_2 x178004_2 x178005_2 x178006_2 x178007_2 x178008_2 x178009_2) = some r := by first | (rw [hy191]; with_reducible exact H) | (have H2_ := (Option.bind_some _ _).symm.trans H; rw [hy191]; with_reducible exact H2_) | (have H2_ := (Option.bind_some _ _).symm.trans H; with_reducible exact H2_) | with_reducible exact H | (rw [hy191]; exact H) | exact H
                    have Ny191 := Aside0.mk hy191
                    clear hy191
                    have H' := Aside0.mk H
                    clear H
                    have p27 : 0 ≤ (x9_2 : Int) := of_decide_eq_true (by first | (with_reducible assumption) | assumption)
                    have q27 : (x9_2 : Int) < ((x7_2.length : Int) : Int) := of_decide_eq_true (by first | (with_reducible assumption) | assumption)
                    obtain ⟨go27, co27, eo27, gb27, gl27, cl27, HG27⟩ := Kd.R_form HO_7.out (by omega)
                    (first | cases eo27 | (injection eo27 with ea_ en_ ec_; (first | subst ea_ | (injection ea_ with ea_; subst ea_)); subst ec_; clear en_))
                    have GB27 := Aside0.mk gb27
                    have GG27 := Aside0.mk HG27
                    clear gb27 gl27 HG27
                    obtain ⟨ce27, hcl27, hM27, hcc27, hfr27⟩ := Kd.R_elem HO_7.out z25 (x9_2 : Int) p27 q27
                    obtain rfl := k25_openM hM27
                    have hx27_0 : wr.cell? ⟨go27, (x9_2 : Int).toNat * 10, none⟩ = some (.int .i64 ((rd_T25 x7_2 x9_2).f0)) := hcc27 0 _ rfl
                    have hx27_1 : wr.cell? ⟨go27, (x9_2 : Int).toNat * 10 + 1, none⟩ = some (.int .i64 ((rd_T25 x7_2 x9_2).f1)) := hcc27 1 _ rfl
                    have hx27_2 : wr.cell? ⟨go27, (x9_2 : Int).toNat * 10 + 2, none⟩ = some (.int .i64 ((rd_T25 x7_2 x9_2).f2)) := hcc27 2 _ rfl
                    have hx27_3 : wr.cell? ⟨go27, (x9_2 : Int).toNat * 10 + 3, none⟩ = some (.int .u32 ((rd_T25 x7_2 x9_2).f3)) := hcc27 3 _ rfl
                    have hx27_4 : wr.cell? ⟨go27, (x9_2 : Int).toNat * 10 + 4, none⟩ = some (.int .u32 ((rd_T25 x7_2 x9_2).f4)) := hcc27 4 _ rfl
                    have hx27_5 : wr.cell? ⟨go27, (x9_2 : Int).toNat * 10 + 5, none⟩ = some (.int .u32 ((rd_T25 x7_2 x9_2).f5)) := hcc27 5 _ rfl
                    have hx27_6 : wr.cell? ⟨go27, (x9_2 : Int).toNat * 10 + 6, none⟩ = some (.int .u32 ((rd_T25 x7_2 x9_2).f6)) := hcc27 6 _ rfl
                    have hx27_7 : wr.cell? ⟨go27, (x9_2 : Int).toNat * 10 + 7, none⟩ = some (.int .u32 ((rd_T25 x7_2 x9_2).f7)) := hcc27 7 _ rfl
                    have hx27_8 : wr.cell? ⟨go27, (x9_2 : Int).toNat * 10 + 8, none⟩ = some (.int .u32 ((rd_T25 x7_2 x9_2).f8)) := hcc27 8 _ rfl
                    have hx27_9 : wr.cell? ⟨go27, (x9_2 : Int).toNat * 10 + 9, none⟩ = some (.int .u32 ((rd_T25 x7_2 x9_2).f9)) := hcc27 9 _ rfl
                    have hf27_0 : wr.frozen? ⟨go27, (x9_2 : Int).toNat * 10, none⟩ = false := hfr27 0
                    have hf27_1 : wr.frozen? ⟨go27, (x9_2 : Int).toNat * 10 + 1, none⟩ = false := hfr27 1
                    have hf27_2 : wr.frozen? ⟨go27, (x9_2 : Int).toNat * 10 + 2, none⟩ = false := hfr27 2
                    have hf27_3 : wr.frozen? ⟨go27, (x9_2 : Int).toNat * 10 + 3, none⟩ = false := hfr27 3
                    have hf27_4 : wr.frozen? ⟨go27, (x9_2 : Int).toNat * 10 + 4, none⟩ = false := hfr27 4
                    have hf27_5 : wr.frozen? ⟨go27, (x9_2 : Int).toNat * 10 + 5, none⟩ = false := hfr27 5
                    have hf27_6 : wr.frozen? ⟨go27, (x9_2 : Int).toNat * 10 + 6, none⟩ = false := hfr27 6
                    have hf27_7 : wr.frozen? ⟨go27, (x9_2 : Int).toNat * 10 + 7, none⟩ = false := hfr27 7
                    have hf27_8 : wr.frozen? ⟨go27, (x9_2 : Int).toNat * 10 + 8, none⟩ = false := hfr27 8
                    have hf27_9 : wr.frozen? ⟨go27, (x9_2 : Int).toNat * 10 + 9, none⟩ = false := hfr27 9
                    clear hcl27 hcc27 hfr27 hM27
                    replace p27 := eq_true p27
                    replace q27 := eq_true q27
                    have HX28 := Aside0.mk (show Kd.R k25 25 wr w.heap.size (fun k_ => some k_ ≠ (v187 : Value).ownBlock ∧ k_ ≠ gb177) (.slice (some ⟨go27, 0, none⟩) x7_2.length co22) x7_2 from (by (with_reducible repeat (first | apply Kd.R_alloc | apply Kd.R_drewN | apply Kd.R_drew)); exact HO_7.out))
                    obtain ⟨ce28, hcl28, hM28, hcc28, hfr28⟩ := Kd.R_elem HX28.out z25 (x9_2 : Int) (of_decide_eq_true (by first | (with_reducible assumption) | assumption)) (by have h_ : (x9_2 : Int) < ((x7_2.length : Int) : Int) := of_decide_eq_true (by first | (with_reducible assumption) | assumption); first | exact h_ | (have e_ := (Kd.R_reads' HO_7.out).1; omega) | simpa using h_)
                    obtain rfl := k25_openM hM28
                    have HP28 := Kd.R_seg HX28.out (x9_2 : Int) (of_decide_eq_true (by first | (with_reducible assumption) | assumption)) (by have h_ : (x9_2 : Int) < ((x7_2.length : Int) : Int) := of_decide_eq_true (by first | (with_reducible assumption) | assumption); first | exact h_ | (have e_ := (Kd.R_reads' HO_7.out).1; omega) | simpa using h_) (seg := [.int .i64 0, .int .i64 0, .int .i64 0, .int .u32 0, .int .u32 0, .int .u32 0, .int .u32 0, .int .u32 0, .int .u32 0, .int .u32 0]) (j := 0) hcl28 hcc28 (show 10 ≤ 10 from by decide) (x' := (⟨0, 0, 0, 0, 0, 0, 0, 0, 0, 0⟩ : S25)) (k25_mkM _ _ _ (⟨0, 0, 0, 0, 0, 0, 0, 0, 0, 0⟩ : S25) ) (fun _ hk => hk)
                    have hx28_0 := hcc28 0 _ rfl
                    (try simp only [show (k25).sz = 10 from rfl, Nat.mul_one, Nat.add_zero] at hx28_0)
                    have hf28_0 := hfr28 0
                    (try simp only [show (k25).sz = 10 from rfl, Nat.mul_one, Nat.add_zero] at hf28_0)
                    have hx28_1 := hcc28 1 _ rfl
                    (try simp only [show (k25).sz = 10 from rfl, Nat.mul_one, Nat.add_zero] at hx28_1)
                    have hf28_1 := hfr28 1
                    (try simp only [show (k25).sz = 10 from rfl, Nat.mul_one, Nat.add_zero] at hf28_1)
                    have hx28_2 := hcc28 2 _ rfl
                    (try simp only [show (k25).sz = 10 from rfl, Nat.mul_one, Nat.add_zero] at hx28_2)
                    have hf28_2 := hfr28 2
                    (try simp only [show (k25).sz = 10 from rfl, Nat.mul_one, Nat.add_zero] at hf28_2)
                    have hx28_3 := hcc28 3 _ rfl
                    (try simp only [show (k25).sz = 10 from rfl, Nat.mul_one, Nat.add_zero] at hx28_3)
                    have hf28_3 := hfr28 3
                    (try simp only [show (k25).sz = 10 from rfl, Nat.mul_one, Nat.add_zero] at hf28_3)
                    have hx28_4 := hcc28 4 _ rfl
                    (try simp only [show (k25).sz = 10 from rfl, Nat.mul_one, Nat.add_zero] at hx28_4)
                    have hf28_4 := hfr28 4
                    (try simp only [show (k25).sz = 10 from rfl, Nat.mul_one, Nat.add_zero] at hf28_4)
                    have hx28_5 := hcc28 5 _ rfl
                    (try simp only [show (k25).sz = 10 from rfl, Nat.mul_one, Nat.add_zero] at hx28_5)
                    have hf28_5 := hfr28 5
                    (try simp only [show (k25).sz = 10 from rfl, Nat.mul_one, Nat.add_zero] at hf28_5)
                    have hx28_6 := hcc28 6 _ rfl
                    (try simp only [show (k25).sz = 10 from rfl, Nat.mul_one, Nat.add_zero] at hx28_6)
                    have hf28_6 := hfr28 6
                    (try simp only [show (k25).sz = 10 from rfl, Nat.mul_one, Nat.add_zero] at hf28_6)
                    have hx28_7 := hcc28 7 _ rfl
                    (try simp only [show (k25).sz = 10 from rfl, Nat.mul_one, Nat.add_zero] at hx28_7)
                    have hf28_7 := hfr28 7
                    (try simp only [show (k25).sz = 10 from rfl, Nat.mul_one, Nat.add_zero] at hf28_7)
                    have hx28_8 := hcc28 8 _ rfl
                    (try simp only [show (k25).sz = 10 from rfl, Nat.mul_one, Nat.add_zero] at hx28_8)
                    have hf28_8 := hfr28 8
                    (try simp only [show (k25).sz = 10 from rfl, Nat.mul_one, Nat.add_zero] at hf28_8)
                    have hx28_9 := hcc28 9 _ rfl
                    (try simp only [show (k25).sz = 10 from rfl, Nat.mul_one, Nat.add_zero] at hx28_9)
                    have hf28_9 := hfr28 9
                    (try simp only [show (k25).sz = 10 from rfl, Nat.mul_one, Nat.add_zero] at hf28_9)
                    clear hcl28 hcc28 hfr28 hM28
                    go_wp2_with (first | ((with_reducible refine gate_store (t := 25) (p := 46) rfl ?_); refine store_event (t := 25) (p := 46) (v := ?vo_w29) (w1 := ((((((((((wr.setCell ⟨go27, (x9_2 : Int).toNat * 10, none⟩ (.int .i64 0)).setCell ⟨go27, (x9_2 : Int).toNat * 10 + 1, none⟩ (.int .i64 0)).setCell ⟨go27, (x9_2 : Int).toNat * 10 + 2, none⟩ (.int .i64 0)).setCell ⟨go27, (x9_2 : Int).toNat * 10 + 3, none⟩ (.int .u32 0)).setCell ⟨go27, (x9_2 : Int).toNat * 10 + 4, none⟩ (.int .u32 0)).setCell ⟨go27, (x9_2 : Int).toNat * 10 + 5, none⟩ (.int .u32 0)).setCell ⟨go27, (x9_2 : Int).toNat * 10 + 6, none⟩ (.int .u32 0)).setCell ⟨go27, (x9_2 : Int).toNat * 10 + 7, none⟩ (.int .u32 0)).setCell ⟨go27, (x9_2 : Int).toNat * 10 + 8, none⟩ (.int .u32 0)).setCell ⟨go27, (x9_2 : Int).toNat * 10 + 9, none⟩ (.int .u32 0))) ?hg ?ho ?hn ?hr ?_; (case ho => rfl); (case hg => rfl); (case hn => rfl); (case hr => first | (go_simp; done) | (go_simp; rfl)); intro w29 hw; have hg : wr.grownBy w29 (some go27) := (by rw [hw]; exact HP28.2); have hp_ : Kd.R k25 25 w29 w.heap.size (fun k_ => some k_ ≠ (v187 : Value).ownBlock ∧ k_ ≠ gb177) (.slice (some ⟨go27, 0, none⟩) x7_2.length co22) y191 := (by rw [hw, Ny191.out]; exact HP28.1); clear HP28; have n0_ := Aside0.mk (hp_); have n1_ := Aside0.mk (Kd.R_after (v := (.slice (some ⟨go27, 0, none⟩) x7_2.length co22)) (v1 := (.slice (some ⟨go27, 0, none⟩) x7_2.length co22)) (ok := (fun k_ => k_ ≠ gb177)) (by (with_reducible repeat (first | apply Kd.R_alloc | apply Kd.R_drewN | apply Kd.R_drew)); exact Kd.R_mono HO_8.out (fun _ hk => ⟨hk.2, hk.1⟩)) hg (.inl rfl)); have n2_ := Aside0.mk (blk_grown (g := gb177) (o := .cells #[.int .i64 x178000_2, .int .i64 x178001_2, .int .i64 x178002_2, .int .u32 x178003_2, .int .u32 x178004_2, .int .u32 x178005_2, .int .u32 x178006_2, .int .u32 x178007_2, .int .u32 x178008_2, .int .u32 x178009_2] 25 (0, 0)) (by (with_reducible repeat (first | refine blk_drewN ?_ _ | refine blk_drew ?_ | refine blk_alloc ?_ _)); exact BK177.out) hg (Kd.R_away HO_7.out (fun _ hk => hk.2))); have n3_ := Aside0.mk ((by rw [hw]; exact below_set (below_set (below_set (below_set (below_set (below_set (below_set (below_set (below_set (below_set (HB.out) GB27.out) GB27.out) GB27.out) GB27.out) GB27.out) GB27.out) GB27.out) GB27.out) GB27.out) GB27.out : Below w.heap.size w w29)); clear HO_7; clear HO_8; clear BK177; clear HB; have HO_7 := n0_; have HO_8 := n1_; have BK177 := n2_; have HB := n3_; clear n0_ n1_ n2_ n3_; clear hg hw hp_))
                    (try simp only [← hl7_2])
                    go_roundg k2
                    case measure => have := HJ3.out; have := HK2.out; omega
                    case rel => exact ⟨(y191), (wrap64 (x9_2 + 1)), (x178000_2), (x178001_2), (x178002_2), (x178003_2), (x178004_2), (x178005_2), (x178006_2), (x178007_2), (x178008_2), (x178009_2), (by first | rfl | (simp; done) | (simp [*]; done)), H', ⟨by have := HJ3.out; have := HK2.out; omega⟩, ⟨by (try simp only [hl7_2]); (with_reducible repeat (first | apply Kd.R_alloc | apply Kd.R_drewN | apply Kd.R_drew)); exact HO_7.out⟩, ⟨by (try simp only [hl7_2]); (with_reducible repeat (first | apply Kd.R_alloc | apply Kd.R_drewN | apply Kd.R_drew)); exact Kd.R_mono HO_8.out (fun _ hk => ⟨hk.2, hk.1⟩)⟩, ⟨by (try simp only [hl7_2]); (with_reducible repeat (first | refine blk_drewN ?_ _ | refine blk_drew ?_ | refine blk_alloc ?_ _)); exact BK177.out⟩, ⟨by repeat (first | (with_reducible first | exact HB.out | apply below_alloc | apply pw_below_drewN | apply below_drew1 | refine below_set ?_ GE177.out) | exact HB.out)⟩⟩
                  · rw [if_neg c26] at H
                    exact absurd H (by simp)
                · rw [if_neg c25] at H
                  have c25b0 : decide (x9_2 < (x7_2.length : Int)) = false := decide_eq_false c25
                  clear c25
                  replace H := Option.bind_eq_some_iff.mp H
                  obtain ⟨t192, A300, H⟩ := H
                  replace H : ((chamberlainref12_Events.f k2 t186 t192).bind fun t195 => (some t195)) = some r := H
                  have A30 := Aside0.mk A300
                  clear A300
                  replace H := Option.bind_eq_some_iff.mp H
                  obtain ⟨t195, A310, H⟩ := H
                  replace H : (some t195) = some r := H
                  have A31 := Aside0.mk A310
                  clear A310
                  obtain rfl := Option.some.inj H
                  have hcz32_0 : wr.cell? ⟨gb177, 0, none⟩ = some (.int .i64 x178000_2) := (blk_cell BK177.out 0).trans rfl
                  have hcz32_1 : wr.cell? ⟨gb177, 1, none⟩ = some (.int .i64 x178001_2) := (blk_cell BK177.out 1).trans rfl
                  have hcz32_2 : wr.cell? ⟨gb177, 2, none⟩ = some (.int .i64 x178002_2) := (blk_cell BK177.out 2).trans rfl
                  have hcz32_3 : wr.cell? ⟨gb177, 3, none⟩ = some (.int .u32 x178003_2) := (blk_cell BK177.out 3).trans rfl
                  have hcz32_4 : wr.cell? ⟨gb177, 4, none⟩ = some (.int .u32 x178004_2) := (blk_cell BK177.out 4).trans rfl
                  have hcz32_5 : wr.cell? ⟨gb177, 5, none⟩ = some (.int .u32 x178005_2) := (blk_cell BK177.out 5).trans rfl
                  have hcz32_6 : wr.cell? ⟨gb177, 6, none⟩ = some (.int .u32 x178006_2) := (blk_cell BK177.out 6).trans rfl
                  have hcz32_7 : wr.cell? ⟨gb177, 7, none⟩ = some (.int .u32 x178007_2) := (blk_cell BK177.out 7).trans rfl
                  have hcz32_8 : wr.cell? ⟨gb177, 8, none⟩ = some (.int .u32 x178008_2) := (blk_cell BK177.out 8).trans rfl
                  have hcz32_9 : wr.cell? ⟨gb177, 9, none⟩ = some (.int .u32 x178009_2) := (blk_cell BK177.out 9).trans rfl
                  have hfz32_0 := blk_frozen BK177.out 0
                  have hfz32_1 := blk_frozen BK177.out 1
                  have hfz32_2 := blk_frozen BK177.out 2
                  have hfz32_3 := blk_frozen BK177.out 3
                  have hfz32_4 := blk_frozen BK177.out 4
                  have hfz32_5 := blk_frozen BK177.out 5
                  have hfz32_6 := blk_frozen BK177.out 6
                  have hfz32_7 := blk_frozen BK177.out 7
                  have hfz32_8 := blk_frozen BK177.out 8
                  have hfz32_9 := blk_frozen BK177.out 9
                  go_wp2_with (first | ((with_reducible refine gate_callee (f := 14) rfl ?_); refine goesL_ (some 53) rfl rfl Try.func14 (by kernel_rfl) rfl #[.slice A0 l0.length c0, .agg #[.int .i64 x178000_2, .int .i64 x178001_2, .int .i64 x178002_2, .int .u32 x178003_2, .int .u32 x178004_2, .int .u32 x178005_2, .int .u32 x178006_2, .int .u32 x178007_2, .int .u32 x178008_2, .int .u32 x178009_2], .int .i64 (wrap64 (Int.tmod a2 512))] rfl (by (try simp only [List.map_toArray, List.map_cons, List.map_nil]); first | done | rfl | (simp only [List.length_drop, List.length_take]; rfl)) ?_; (with_reducible refine (chamberlainref19_Select.calls k2 _ _ l0 x178000_2 x178001_2 x178002_2 x178003_2 x178004_2 x178005_2 x178006_2 x178007_2 x178008_2 x178009_2 (wrap64 (Int.tmod a2 512)) t192 _ ?side1 ?side2 A30.out).mono ?_); (case side1 => repeat (first | exact (Kd.C_below HR0.out HB.out) | (with_reducible refine Kd.C_alloc ?_ _) | (with_reducible refine Kd.C_drewN ?_ _) | (with_reducible refine Kd.C_drew ?_))); (case side2 => exact HC0.out); rintro e w33 ⟨v193, rfl, ho0, hb⟩; refine ⟨_, rfl, ?_⟩; have n0_ := Aside0.mk (Kd.R_elder' (by (with_reducible repeat (first | apply Kd.R_alloc | apply Kd.R_drewN | apply Kd.R_drew)); exact HO_7.out) (Kd.R_base ho0) hb); have n1_ := Aside0.mk (Kd.R_elder' (by (with_reducible repeat (first | apply Kd.R_alloc | apply Kd.R_drewN | apply Kd.R_drew)); exact HO_8.out) (Kd.R_base ho0) hb); have n2_ := Aside0.mk (Kd.R_lower (Kd.R_newB (Kd.R_new' (Kd.R_new' ho0 (Kd.R_lt (by (with_reducible repeat (first | apply Kd.R_alloc | apply Kd.R_drewN | apply Kd.R_drew)); exact HO_7.out))) (Kd.R_lt (by (with_reducible repeat (first | apply Kd.R_alloc | apply Kd.R_drewN | apply Kd.R_drew)); exact HO_8.out))) (g := gb177) (o := .cells #[.int .i64 x178000_2, .int .i64 x178001_2, .int .i64 x178002_2, .int .u32 x178003_2, .int .u32 x178004_2, .int .u32 x178005_2, .int .u32 x178006_2, .int .u32 x178007_2, .int .u32 x178008_2, .int .u32 x178009_2] 25 (0, 0)) (by (with_reducible repeat (first | refine blk_drewN ?_ _ | refine blk_drew ?_ | refine blk_alloc ?_ _)); exact BK177.out)) (below_size (by repeat (first | (with_reducible first | exact HB.out | apply below_alloc | apply pw_below_drewN | apply below_drew1 | refine below_set ?_ GE177.out) | exact HB.out)))); have n3_ := Aside0.mk (blk_below (g := gb177) (o := .cells #[.int .i64 x178000_2, .int .i64 x178001_2, .int .i64 x178002_2, .int .u32 x178003_2, .int .u32 x178004_2, .int .u32 x178005_2, .int .u32 x178006_2, .int .u32 x178007_2, .int .u32 x178008_2, .int .u32 x178009_2] 25 (0, 0)) (by (with_reducible repeat (first | refine blk_drewN ?_ _ | refine blk_drew ?_ | refine blk_alloc ?_ _)); exact BK177.out) hb); have n4_ := Aside0.mk (below_step (by repeat (first | (with_reducible first | exact HB.out | apply below_alloc | apply pw_below_drewN | apply below_drew1 | refine below_set ?_ GE177.out) | exact HB.out)) hb); clear HO_7; clear HO_8; clear BK177; clear HB; have HO_7 := n0_; have HO_8 := n1_; have HO194 := n2_; have BK177 := n3_; have HB := n4_; clear n0_ n1_ n2_ n3_ n4_; (try clear hb); (try clear hb2); (try clear hk); (try clear hi); (try clear ho0); obtain ⟨Ao34, co34, eo34⟩ := Kd.R_slice HO_8.out; subst eo34; obtain ⟨Ao35, co35, eo35⟩ := Kd.R_slice HO194.out; subst eo35) | ((with_reducible refine gate_callee (f := 12) rfl ?_); refine goesL_ (some 54) rfl rfl Try.func12 (by kernel_rfl) rfl #[.slice Ao34 t186.length co34, .slice Ao35 t192.length co35] rfl (by (try simp only [List.map_toArray, List.map_cons, List.map_nil]); first | done | rfl | (simp only [List.length_drop, List.length_take]; rfl)) ?_; (with_reducible refine (chamberlainref12_Events.calls k2 _ _ t186 _ _ t192 t195 _ ?side1 ?side2 ?side3 ?side4 A31.out).mono ?_); (case side1 => repeat (first | exact (Kd.R_reads' HO_8.out).2.2 | (with_reducible refine Kd.C_alloc ?_ _) | (with_reducible refine Kd.C_drewN ?_ _) | (with_reducible refine Kd.C_drew ?_))); (case side2 => exact (Kd.R_reads' HO_8.out).2.1); (case side3 => repeat (first | exact (Kd.R_reads' HO194.out).2.2 | (with_reducible refine Kd.C_alloc ?_ _) | (with_reducible refine Kd.C_drewN ?_ _) | (with_reducible refine Kd.C_drew ?_))); (case side4 => exact (Kd.R_reads' HO194.out).2.1); rintro e w' ⟨rfl, ⟨nd, rfl⟩⟩; refine ⟨_, rfl, ?_⟩))
                  go_ret
                  exact ⟨by first | rfl | (simp [errW_none, errW_some] <;> rfl) | (simp [*, errW_none, errW_some] <;> rfl), by repeat (first | (with_reducible first | exact HB.out | apply below_alloc | apply pw_below_drewN | apply below_drew1 | refine below_set ?_ GE177.out) | exact HB.out)⟩
          · replace c17 := Bool.eq_false_iff.mpr c17
            subst c17
            have H1 : (some false) = some r := by rw [if_neg (show ¬ (false = true) by decide)] at H; exact H
            clear H
            have H := H1
            clear H1
            exact absurd (hT.out.symm.trans (Option.some.inj H).symm) (by decide)
        · rw [if_neg c13] at H
          exact absurd H (by simp)

end Go.Proofs.Ytmmpiblmggkghaa.PLogKeeps
