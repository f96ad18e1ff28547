-- Written for this claim by wip/tools/myprint.py (print.py's forms; proofs of the faked functions by hand).
import Derived.Test.YtmmpiblmggkghaaPLogGivesx1
import Derived.Test.YtmmpiblmggkghaaPLogGivesx2
import Derived.Test.YtmmpiblmggkghaaPLogGivesx0
import Derived.Test.YtmmpiblmggkghaaPLogGivesx3
import Derived.Test.YtmmpiblmggkghaaPLogGivesx4
namespace Go.Proofs.Ytmmpiblmggkghaa.PLogGives
open Go.RowKit Go.Proofs.YtmmpiblmggkghaaW.PrintWords Go.Proofs.YtmmpiblmggkghaaW.PrintLast Go.Proofs.YtmmpiblmggkghaaW.PrintMore
attribute [local go_sem] max2_int min2_int max_two min_two max_three min_three max_four min_four   -- for this text's walks alone
set_option linter.unusedVariables false
set_option linter.unusedSimpArgs false

/-! ### chamberlainref19_Fits: function 11 -/
/-- Whether what a mask leaves of two fields is one. -/
def lsame (m : Int) (j : Nat) (x y : Int) : Bool := !lbit m j || x == y
theorem lfit.y0 {m : Int} (h : lbit m 0 = true) : (m % 2 == 1) = true := by unfold lbit at h; simp at h ⊢; omega
theorem lfit.n0 {m : Int} (h : lbit m 0 = false) : (m % 2 == 1) = false := by unfold lbit at h; simp at h ⊢; omega
theorem lfit.y1 {m : Int} (h : lbit m 1 = true) : (m / 2 % 2 == 1) = true := by unfold lbit at h; simp at h ⊢; omega
theorem lfit.n1 {m : Int} (h : lbit m 1 = false) : (m / 2 % 2 == 1) = false := by unfold lbit at h; simp at h ⊢; omega
theorem lfit.y2 {m : Int} (h : lbit m 2 = true) : (m / 4 % 2 == 1) = true := by unfold lbit at h; simp at h ⊢; omega
theorem lfit.n2 {m : Int} (h : lbit m 2 = false) : (m / 4 % 2 == 1) = false := by unfold lbit at h; simp at h ⊢; omega
theorem lfit.y3 {m : Int} (h : lbit m 3 = true) : (m / 8 % 2 == 1) = true := by unfold lbit at h; simp at h ⊢; omega
theorem lfit.n3 {m : Int} (h : lbit m 3 = false) : (m / 8 % 2 == 1) = false := by unfold lbit at h; simp at h ⊢; omega
theorem lfit.y4 {m : Int} (h : lbit m 4 = true) : (m / 16 % 2 == 1) = true := by unfold lbit at h; simp at h ⊢; omega
theorem lfit.n4 {m : Int} (h : lbit m 4 = false) : (m / 16 % 2 == 1) = false := by unfold lbit at h; simp at h ⊢; omega
theorem lfit.y5 {m : Int} (h : lbit m 5 = true) : (m / 32 % 2 == 1) = true := by unfold lbit at h; simp at h ⊢; omega
theorem lfit.n5 {m : Int} (h : lbit m 5 = false) : (m / 32 % 2 == 1) = false := by unfold lbit at h; simp at h ⊢; omega
theorem lfit.y6 {m : Int} (h : lbit m 6 = true) : (m / 64 % 2 == 0) = false := by unfold lbit at h; simp at h ⊢; omega
theorem lfit.n6 {m : Int} (h : lbit m 6 = false) : (m / 64 % 2 == 0) = true := by unfold lbit at h; simp at h ⊢; omega
theorem lfit.y7 {m : Int} (h : lbit m 7 = true) : (m / 128 % 2 == 0) = false := by unfold lbit at h; simp at h ⊢; omega
theorem lfit.n7 {m : Int} (h : lbit m 7 = false) : (m / 128 % 2 == 0) = true := by unfold lbit at h; simp at h ⊢; omega
theorem lfit.y8 {m : Int} (h : lbit m 8 = true) : (m / 256 % 2 == 0) = false := by unfold lbit at h; simp at h ⊢; omega
theorem lfit.n8 {m : Int} (h : lbit m 8 = false) : (m / 256 % 2 == 0) = true := by unfold lbit at h; simp at h ⊢; omega
/-- Whether what a mask leaves of two events is one. -/
def lfits (m x0 x1 x2 x3 x4 x5 x6 x7 x8 y0 y1 y2 y3 y4 y5 y6 y7 y8 : Int) : Bool := lsame m 0 x0 y0 && lsame m 1 x1 y1 && lsame m 2 x2 y2 && lsame m 3 x3 y3 && lsame m 4 x4 y4 && lsame m 5 x5 y5 && lsame m 6 x6 y6 && lsame m 7 x7 y7 && lsame m 8 x8 y8
theorem lfit.no0 (m x0 x1 x2 x3 x4 x5 x6 x7 x8 y0 y1 y2 y3 y4 y5 y6 y7 y8 : Int) (h : lsame m 0 x0 y0 = false) : lfits m x0 x1 x2 x3 x4 x5 x6 x7 x8 y0 y1 y2 y3 y4 y5 y6 y7 y8 = false := by unfold lfits; rw [h]; simp
theorem lfit.no1 (m x0 x1 x2 x3 x4 x5 x6 x7 x8 y0 y1 y2 y3 y4 y5 y6 y7 y8 : Int) (h : lsame m 1 x1 y1 = false) : lfits m x0 x1 x2 x3 x4 x5 x6 x7 x8 y0 y1 y2 y3 y4 y5 y6 y7 y8 = false := by unfold lfits; rw [h]; simp
theorem lfit.no2 (m x0 x1 x2 x3 x4 x5 x6 x7 x8 y0 y1 y2 y3 y4 y5 y6 y7 y8 : Int) (h : lsame m 2 x2 y2 = false) : lfits m x0 x1 x2 x3 x4 x5 x6 x7 x8 y0 y1 y2 y3 y4 y5 y6 y7 y8 = false := by unfold lfits; rw [h]; simp
theorem lfit.no3 (m x0 x1 x2 x3 x4 x5 x6 x7 x8 y0 y1 y2 y3 y4 y5 y6 y7 y8 : Int) (h : lsame m 3 x3 y3 = false) : lfits m x0 x1 x2 x3 x4 x5 x6 x7 x8 y0 y1 y2 y3 y4 y5 y6 y7 y8 = false := by unfold lfits; rw [h]; simp
theorem lfit.no4 (m x0 x1 x2 x3 x4 x5 x6 x7 x8 y0 y1 y2 y3 y4 y5 y6 y7 y8 : Int) (h : lsame m 4 x4 y4 = false) : lfits m x0 x1 x2 x3 x4 x5 x6 x7 x8 y0 y1 y2 y3 y4 y5 y6 y7 y8 = false := by unfold lfits; rw [h]; simp
theorem lfit.no5 (m x0 x1 x2 x3 x4 x5 x6 x7 x8 y0 y1 y2 y3 y4 y5 y6 y7 y8 : Int) (h : lsame m 5 x5 y5 = false) : lfits m x0 x1 x2 x3 x4 x5 x6 x7 x8 y0 y1 y2 y3 y4 y5 y6 y7 y8 = false := by unfold lfits; rw [h]; simp
theorem lfit.no6 (m x0 x1 x2 x3 x4 x5 x6 x7 x8 y0 y1 y2 y3 y4 y5 y6 y7 y8 : Int) (h : lsame m 6 x6 y6 = false) : lfits m x0 x1 x2 x3 x4 x5 x6 x7 x8 y0 y1 y2 y3 y4 y5 y6 y7 y8 = false := by unfold lfits; rw [h]; simp
theorem lfit.no7 (m x0 x1 x2 x3 x4 x5 x6 x7 x8 y0 y1 y2 y3 y4 y5 y6 y7 y8 : Int) (h : lsame m 7 x7 y7 = false) : lfits m x0 x1 x2 x3 x4 x5 x6 x7 x8 y0 y1 y2 y3 y4 y5 y6 y7 y8 = false := by unfold lfits; rw [h]; simp
theorem lfit.no8 (m x0 x1 x2 x3 x4 x5 x6 x7 x8 y0 y1 y2 y3 y4 y5 y6 y7 y8 : Int) (h : lsame m 8 x8 y8 = false) : lfits m x0 x1 x2 x3 x4 x5 x6 x7 x8 y0 y1 y2 y3 y4 y5 y6 y7 y8 = false := by unfold lfits; rw [h]; simp
def chamberlainref19_Fits.f (a0_0 : Int) (a0_1 : Int) (a0_2 : Int) (a0_3 : Int) (a0_4 : Int) (a0_5 : Int) (a0_6 : Int) (a0_7 : Int) (a0_8 : Int) (_a0_9 : Int) (a1_0 : Int) (a1_1 : Int) (a1_2 : Int) (a1_3 : Int) (a1_4 : Int) (a1_5 : Int) (a1_6 : Int) (a1_7 : Int) (a1_8 : Int) (_a1_9 : Int) (a2 : Int) : Option (Bool) := if 0 ≤ a2 ∧ a2 < 512 then some (lfits a2 a0_0 a0_1 a0_2 a0_3 a0_4 a0_5 a0_6 a0_7 a0_8 a1_0 a1_1 a1_2 a1_3 a1_4 a1_5 a1_6 a1_7 a1_8) else none
theorem lfit.ret {a b : Bool} (h : a = b) : Ending.returned (.bool a) = .returned (.bool b) := by rw [h]
set_option maxHeartbeats 8000000 in
set_option maxRecDepth 100000 in
theorem chamberlainref19_Fits.calls (a0_0 : Int) (a0_1 : Int) (a0_2 : Int) (a0_3 : Int) (a0_4 : Int) (a0_5 : Int) (a0_6 : Int) (a0_7 : Int) (a0_8 : Int) (a0_9 : Int) (a1_0 : Int) (a1_1 : Int) (a1_2 : Int) (a1_3 : Int) (a1_4 : Int) (a1_5 : Int) (a1_6 : Int) (a1_7 : Int) (a1_8 : Int) (a1_9 : Int) (a2 : Int) (r : Bool) (w : World) (h : chamberlainref19_Fits.f a0_0 a0_1 a0_2 a0_3 a0_4 a0_5 a0_6 a0_7 a0_8 a0_9 a1_0 a1_1 a1_2 a1_3 a1_4 a1_5 a1_6 a1_7 a1_8 a1_9 a2 = some r) :
    Calls Try.prog 11 #[.agg #[.int .i64 a0_0, .int .i64 a0_1, .int .i64 a0_2, .int .u32 a0_3, .int .u32 a0_4, .int .u32 a0_5, .int .u32 a0_6, .int .u32 a0_7, .int .u32 a0_8, .int .u32 a0_9], .agg #[.int .i64 a1_0, .int .i64 a1_1, .int .i64 a1_2, .int .u32 a1_3, .int .u32 a1_4, .int .u32 a1_5, .int .u32 a1_6, .int .u32 a1_7, .int .u32 a1_8, .int .u32 a1_9], .int .i64 a2] w fun e w' => e = .returned (.bool r) ∧ Below w.heap.size w w' := by
  unfold chamberlainref19_Fits.f at h
  by_cases hm : 0 ≤ a2 ∧ a2 < 512
  rotate_left
  · rw [if_neg hm] at h; cases h
  rw [if_pos hm] at h
  obtain ⟨h0, h1⟩ := hm
  obtain rfl := Option.some.inj h
  clear h
  have hB := Aside0.mk (below_alloc (below_alloc (Below.refl w.heap.size w) (.cells #[.int .i64 a0_0, .int .i64 a0_1, .int .i64 a0_2, .int .u32 a0_3, .int .u32 a0_4, .int .u32 a0_5, .int .u32 a0_6, .int .u32 a0_7, .int .u32 a0_8, .int .u32 a0_9] 25)) (.cells #[.int .i64 a1_0, .int .i64 a1_1, .int .i64 a1_2, .int .u32 a1_3, .int .u32 a1_4, .int .u32 a1_5, .int .u32 a1_6, .int .u32 a1_7, .int .u32 a1_8, .int .u32 a1_9] 25))
  go_enter Try.func11, Try.ntmps11
  go_upto_region 1 with (fail)
  go_cut [42] (fun v wc => ∃ b : Bool, v = .bool b ∧ wc = ((w.alloc (.cells #[.int .i64 a0_0, .int .i64 a0_1, .int .i64 a0_2, .int .u32 a0_3, .int .u32 a0_4, .int .u32 a0_5, .int .u32 a0_6, .int .u32 a0_7, .int .u32 a0_8, .int .u32 a0_9] 25)).alloc (.cells #[.int .i64 a1_0, .int .i64 a1_1, .int .i64 a1_2, .int .u32 a1_3, .int .u32 a1_4, .int .u32 a1_5, .int .u32 a1_6, .int .u32 a1_7, .int .u32 a1_8, .int .u32 a1_9] 25)) ∧ Aside0 (b = true → lfits a2 a0_0 a0_1 a0_2 a0_3 a0_4 a0_5 a0_6 a0_7 a0_8 a1_0 a1_1 a1_2 a1_3 a1_4 a1_5 a1_6 a1_7 a1_8 = false) ∧ Aside0 (b = false → lsame a2 0 a0_0 a1_0 = true ∧ lsame a2 1 a0_1 a1_1 = true ∧ lsame a2 2 a0_2 a1_2 = true))
  case first =>
    cases hb0 : lbit a2 0 with
    | false =>
      have q0 : (a2 % 2 == 1) = false := lfit.n0 hb0
      cases hb1 : lbit a2 1 with
      | false =>
        have q1 : (a2 / 2 % 2 == 1) = false := lfit.n1 hb1
        cases hb2 : lbit a2 2 with
        | false =>
          have q2 : (a2 / 4 % 2 == 1) = false := lfit.n2 hb2
          go_wp2
          go_meet
          case rel => exact ⟨false, rfl, rfl, ⟨fun h => by cases h⟩, ⟨fun _ => ⟨by unfold lsame; rw [hb0]; first | rfl | (rw [HX0.out]; simp), by unfold lsame; rw [hb1]; first | rfl | (rw [HX1.out]; simp), by unfold lsame; rw [hb2]; first | rfl | (rw [HX2.out]; simp)⟩⟩⟩
        | true =>
          have q2 : (a2 / 4 % 2 == 1) = true := lfit.y2 hb2
          by_cases hx2 : a0_2 = a1_2
          · have e2 : (a0_2 == a1_2) = true := beq_iff_eq.2 hx2
            have d2 : (a0_2 != a1_2) = false := by unfold bne; rw [e2]; rfl
            have HX2 := Aside0.mk hx2
            clear hx2
            go_wp2
            go_meet
            case rel => exact ⟨false, rfl, rfl, ⟨fun h => by cases h⟩, ⟨fun _ => ⟨by unfold lsame; rw [hb0]; first | rfl | (rw [HX0.out]; simp), by unfold lsame; rw [hb1]; first | rfl | (rw [HX1.out]; simp), by unfold lsame; rw [hb2]; first | rfl | (rw [HX2.out]; simp)⟩⟩⟩
          · have e2 : (a0_2 == a1_2) = false := beq_eq_false_iff_ne.2 hx2
            have d2 : (a0_2 != a1_2) = true := by unfold bne; rw [e2]; rfl
            have L2 : lsame a2 2 a0_2 a1_2 = false := by unfold lsame; rw [hb2, e2]; rfl
            have HL := Aside0.mk (lfit.no2 a2 a0_0 a0_1 a0_2 a0_3 a0_4 a0_5 a0_6 a0_7 a0_8 a1_0 a1_1 a1_2 a1_3 a1_4 a1_5 a1_6 a1_7 a1_8 L2)
            clear hx2 L2
            go_wp2
            go_meet
            case rel => exact ⟨true, rfl, rfl, ⟨fun _ => HL.out⟩, ⟨fun h => by cases h⟩⟩
      | true =>
        have q1 : (a2 / 2 % 2 == 1) = true := lfit.y1 hb1
        by_cases hx1 : a0_1 = a1_1
        · have e1 : (a0_1 == a1_1) = true := beq_iff_eq.2 hx1
          have d1 : (a0_1 != a1_1) = false := by unfold bne; rw [e1]; rfl
          have HX1 := Aside0.mk hx1
          clear hx1
          cases hb2 : lbit a2 2 with
          | false =>
            have q2 : (a2 / 4 % 2 == 1) = false := lfit.n2 hb2
            go_wp2
            go_meet
            case rel => exact ⟨false, rfl, rfl, ⟨fun h => by cases h⟩, ⟨fun _ => ⟨by unfold lsame; rw [hb0]; first | rfl | (rw [HX0.out]; simp), by unfold lsame; rw [hb1]; first | rfl | (rw [HX1.out]; simp), by unfold lsame; rw [hb2]; first | rfl | (rw [HX2.out]; simp)⟩⟩⟩
          | true =>
            have q2 : (a2 / 4 % 2 == 1) = true := lfit.y2 hb2
            by_cases hx2 : a0_2 = a1_2
            · have e2 : (a0_2 == a1_2) = true := beq_iff_eq.2 hx2
              have d2 : (a0_2 != a1_2) = false := by unfold bne; rw [e2]; rfl
              have HX2 := Aside0.mk hx2
              clear hx2
              go_wp2
              go_meet
              case rel => exact ⟨false, rfl, rfl, ⟨fun h => by cases h⟩, ⟨fun _ => ⟨by unfold lsame; rw [hb0]; first | rfl | (rw [HX0.out]; simp), by unfold lsame; rw [hb1]; first | rfl | (rw [HX1.out]; simp), by unfold lsame; rw [hb2]; first | rfl | (rw [HX2.out]; simp)⟩⟩⟩
            · have e2 : (a0_2 == a1_2) = false := beq_eq_false_iff_ne.2 hx2
              have d2 : (a0_2 != a1_2) = true := by unfold bne; rw [e2]; rfl
              have L2 : lsame a2 2 a0_2 a1_2 = false := by unfold lsame; rw [hb2, e2]; rfl
              have HL := Aside0.mk (lfit.no2 a2 a0_0 a0_1 a0_2 a0_3 a0_4 a0_5 a0_6 a0_7 a0_8 a1_0 a1_1 a1_2 a1_3 a1_4 a1_5 a1_6 a1_7 a1_8 L2)
              clear hx2 L2
              go_wp2
              go_meet
              case rel => exact ⟨true, rfl, rfl, ⟨fun _ => HL.out⟩, ⟨fun h => by cases h⟩⟩
        · have e1 : (a0_1 == a1_1) = false := beq_eq_false_iff_ne.2 hx1
          have d1 : (a0_1 != a1_1) = true := by unfold bne; rw [e1]; rfl
          have L1 : lsame a2 1 a0_1 a1_1 = false := by unfold lsame; rw [hb1, e1]; rfl
          have HL := Aside0.mk (lfit.no1 a2 a0_0 a0_1 a0_2 a0_3 a0_4 a0_5 a0_6 a0_7 a0_8 a1_0 a1_1 a1_2 a1_3 a1_4 a1_5 a1_6 a1_7 a1_8 L1)
          clear hx1 L1
          go_wp2
          go_meet
          case rel => exact ⟨true, rfl, rfl, ⟨fun _ => HL.out⟩, ⟨fun h => by cases h⟩⟩
    | true =>
      have q0 : (a2 % 2 == 1) = true := lfit.y0 hb0
      by_cases hx0 : a0_0 = a1_0
      · have e0 : (a0_0 == a1_0) = true := beq_iff_eq.2 hx0
        have d0 : (a0_0 != a1_0) = false := by unfold bne; rw [e0]; rfl
        have HX0 := Aside0.mk hx0
        clear hx0
        cases hb1 : lbit a2 1 with
        | false =>
          have q1 : (a2 / 2 % 2 == 1) = false := lfit.n1 hb1
          cases hb2 : lbit a2 2 with
          | false =>
            have q2 : (a2 / 4 % 2 == 1) = false := lfit.n2 hb2
            go_wp2
            go_meet
            case rel => exact ⟨false, rfl, rfl, ⟨fun h => by cases h⟩, ⟨fun _ => ⟨by unfold lsame; rw [hb0]; first | rfl | (rw [HX0.out]; simp), by unfold lsame; rw [hb1]; first | rfl | (rw [HX1.out]; simp), by unfold lsame; rw [hb2]; first | rfl | (rw [HX2.out]; simp)⟩⟩⟩
          | true =>
            have q2 : (a2 / 4 % 2 == 1) = true := lfit.y2 hb2
            by_cases hx2 : a0_2 = a1_2
            · have e2 : (a0_2 == a1_2) = true := beq_iff_eq.2 hx2
              have d2 : (a0_2 != a1_2) = false := by unfold bne; rw [e2]; rfl
              have HX2 := Aside0.mk hx2
              clear hx2
              go_wp2
              go_meet
              case rel => exact ⟨false, rfl, rfl, ⟨fun h => by cases h⟩, ⟨fun _ => ⟨by unfold lsame; rw [hb0]; first | rfl | (rw [HX0.out]; simp), by unfold lsame; rw [hb1]; first | rfl | (rw [HX1.out]; simp), by unfold lsame; rw [hb2]; first | rfl | (rw [HX2.out]; simp)⟩⟩⟩
            · have e2 : (a0_2 == a1_2) = false := beq_eq_false_iff_ne.2 hx2
              have d2 : (a0_2 != a1_2) = true := by unfold bne; rw [e2]; rfl
              have L2 : lsame a2 2 a0_2 a1_2 = false := by unfold lsame; rw [hb2, e2]; rfl
              have HL := Aside0.mk (lfit.no2 a2 a0_0 a0_1 a0_2 a0_3 a0_4 a0_5 a0_6 a0_7 a0_8 a1_0 a1_1 a1_2 a1_3 a1_4 a1_5 a1_6 a1_7 a1_8 L2)
              clear hx2 L2
              go_wp2
              go_meet
              case rel => exact ⟨true, rfl, rfl, ⟨fun _ => HL.out⟩, ⟨fun h => by cases h⟩⟩
        | true =>
          have q1 : (a2 / 2 % 2 == 1) = true := lfit.y1 hb1
          by_cases hx1 : a0_1 = a1_1
          · have e1 : (a0_1 == a1_1) = true := beq_iff_eq.2 hx1
            have d1 : (a0_1 != a1_1) = false := by unfold bne; rw [e1]; rfl
            have HX1 := Aside0.mk hx1
            clear hx1
            cases hb2 : lbit a2 2 with
            | false =>
              have q2 : (a2 / 4 % 2 == 1) = false := lfit.n2 hb2
              go_wp2
              go_meet
              case rel => exact ⟨false, rfl, rfl, ⟨fun h => by cases h⟩, ⟨fun _ => ⟨by unfold lsame; rw [hb0]; first | rfl | (rw [HX0.out]; simp), by unfold lsame; rw [hb1]; first | rfl | (rw [HX1.out]; simp), by unfold lsame; rw [hb2]; first | rfl | (rw [HX2.out]; simp)⟩⟩⟩
            | true =>
              have q2 : (a2 / 4 % 2 == 1) = true := lfit.y2 hb2
              by_cases hx2 : a0_2 = a1_2
              · have e2 : (a0_2 == a1_2) = true := beq_iff_eq.2 hx2
                have d2 : (a0_2 != a1_2) = false := by unfold bne; rw [e2]; rfl
                have HX2 := Aside0.mk hx2
                clear hx2
                go_wp2
                go_meet
                case rel => exact ⟨false, rfl, rfl, ⟨fun h => by cases h⟩, ⟨fun _ => ⟨by unfold lsame; rw [hb0]; first | rfl | (rw [HX0.out]; simp), by unfold lsame; rw [hb1]; first | rfl | (rw [HX1.out]; simp), by unfold lsame; rw [hb2]; first | rfl | (rw [HX2.out]; simp)⟩⟩⟩
              · have e2 : (a0_2 == a1_2) = false := beq_eq_false_iff_ne.2 hx2
                have d2 : (a0_2 != a1_2) = true := by unfold bne; rw [e2]; rfl
                have L2 : lsame a2 2 a0_2 a1_2 = false := by unfold lsame; rw [hb2, e2]; rfl
                have HL := Aside0.mk (lfit.no2 a2 a0_0 a0_1 a0_2 a0_3 a0_4 a0_5 a0_6 a0_7 a0_8 a1_0 a1_1 a1_2 a1_3 a1_4 a1_5 a1_6 a1_7 a1_8 L2)
                clear hx2 L2
                go_wp2
                go_meet
                case rel => exact ⟨true, rfl, rfl, ⟨fun _ => HL.out⟩, ⟨fun h => by cases h⟩⟩
          · have e1 : (a0_1 == a1_1) = false := beq_eq_false_iff_ne.2 hx1
            have d1 : (a0_1 != a1_1) = true := by unfold bne; rw [e1]; rfl
            have L1 : lsame a2 1 a0_1 a1_1 = false := by unfold lsame; rw [hb1, e1]; rfl
            have HL := Aside0.mk (lfit.no1 a2 a0_0 a0_1 a0_2 a0_3 a0_4 a0_5 a0_6 a0_7 a0_8 a1_0 a1_1 a1_2 a1_3 a1_4 a1_5 a1_6 a1_7 a1_8 L1)
            clear hx1 L1
            go_wp2
            go_meet
            case rel => exact ⟨true, rfl, rfl, ⟨fun _ => HL.out⟩, ⟨fun h => by cases h⟩⟩
      · have e0 : (a0_0 == a1_0) = false := beq_eq_false_iff_ne.2 hx0
        have d0 : (a0_0 != a1_0) = true := by unfold bne; rw [e0]; rfl
        have L0 : lsame a2 0 a0_0 a1_0 = false := by unfold lsame; rw [hb0, e0]; rfl
        have HL := Aside0.mk (lfit.no0 a2 a0_0 a0_1 a0_2 a0_3 a0_4 a0_5 a0_6 a0_7 a0_8 a1_0 a1_1 a1_2 a1_3 a1_4 a1_5 a1_6 a1_7 a1_8 L0)
        clear hx0 L0
        go_wp2
        go_meet
        case rel => exact ⟨true, rfl, rfl, ⟨fun _ => HL.out⟩, ⟨fun h => by cases h⟩⟩
  case rest =>
    obtain ⟨b, rfl, rfl, T, L⟩ := hcut
    cases b with
    | true =>
      go_wp2
      go_ret
      exact ⟨lfit.ret (T.out (by trivial)).symm, hB.out⟩
    | false =>
      obtain ⟨L0, L1, L2⟩ := L.out rfl
      have HL0 := Aside0.mk L0
      have HL1 := Aside0.mk L1
      have HL2 := Aside0.mk L2
      clear T L L0 L1 L2
      go_upto_region 3 with (fail)
      go_cut [79] (fun v wc => ∃ b : Bool, v = .bool b ∧ wc = ((w.alloc (.cells #[.int .i64 a0_0, .int .i64 a0_1, .int .i64 a0_2, .int .u32 a0_3, .int .u32 a0_4, .int .u32 a0_5, .int .u32 a0_6, .int .u32 a0_7, .int .u32 a0_8, .int .u32 a0_9] 25)).alloc (.cells #[.int .i64 a1_0, .int .i64 a1_1, .int .i64 a1_2, .int .u32 a1_3, .int .u32 a1_4, .int .u32 a1_5, .int .u32 a1_6, .int .u32 a1_7, .int .u32 a1_8, .int .u32 a1_9] 25)) ∧ Aside0 (b = true → lfits a2 a0_0 a0_1 a0_2 a0_3 a0_4 a0_5 a0_6 a0_7 a0_8 a1_0 a1_1 a1_2 a1_3 a1_4 a1_5 a1_6 a1_7 a1_8 = false) ∧ Aside0 (b = false → lsame a2 3 a0_3 a1_3 = true ∧ lsame a2 4 a0_4 a1_4 = true ∧ lsame a2 5 a0_5 a1_5 = true))
      case first =>
        cases hb3 : lbit a2 3 with
        | false =>
          have q3 : (a2 / 8 % 2 == 1) = false := lfit.n3 hb3
          cases hb4 : lbit a2 4 with
          | false =>
            have q4 : (a2 / 16 % 2 == 1) = false := lfit.n4 hb4
            cases hb5 : lbit a2 5 with
            | false =>
              have q5 : (a2 / 32 % 2 == 1) = false := lfit.n5 hb5
              go_wp2
              go_meet
              case rel => exact ⟨false, rfl, rfl, ⟨fun h => by cases h⟩, ⟨fun _ => ⟨by unfold lsame; rw [hb3]; first | rfl | (rw [HX3.out]; simp), by unfold lsame; rw [hb4]; first | rfl | (rw [HX4.out]; simp), by unfold lsame; rw [hb5]; first | rfl | (rw [HX5.out]; simp)⟩⟩⟩
            | true =>
              have q5 : (a2 / 32 % 2 == 1) = true := lfit.y5 hb5
              by_cases hx5 : a0_5 = a1_5
              · have e5 : (a0_5 == a1_5) = true := beq_iff_eq.2 hx5
                have d5 : (a0_5 != a1_5) = false := by unfold bne; rw [e5]; rfl
                have HX5 := Aside0.mk hx5
                clear hx5
                go_wp2
                go_meet
                case rel => exact ⟨false, rfl, rfl, ⟨fun h => by cases h⟩, ⟨fun _ => ⟨by unfold lsame; rw [hb3]; first | rfl | (rw [HX3.out]; simp), by unfold lsame; rw [hb4]; first | rfl | (rw [HX4.out]; simp), by unfold lsame; rw [hb5]; first | rfl | (rw [HX5.out]; simp)⟩⟩⟩
              · have e5 : (a0_5 == a1_5) = false := beq_eq_false_iff_ne.2 hx5
                have d5 : (a0_5 != a1_5) = true := by unfold bne; rw [e5]; rfl
                have L5 : lsame a2 5 a0_5 a1_5 = false := by unfold lsame; rw [hb5, e5]; rfl
                have HL := Aside0.mk (lfit.no5 a2 a0_0 a0_1 a0_2 a0_3 a0_4 a0_5 a0_6 a0_7 a0_8 a1_0 a1_1 a1_2 a1_3 a1_4 a1_5 a1_6 a1_7 a1_8 L5)
                clear hx5 L5
                go_wp2
                go_meet
                case rel => exact ⟨true, rfl, rfl, ⟨fun _ => HL.out⟩, ⟨fun h => by cases h⟩⟩
          | true =>
            have q4 : (a2 / 16 % 2 == 1) = true := lfit.y4 hb4
            by_cases hx4 : a0_4 = a1_4
            · have e4 : (a0_4 == a1_4) = true := beq_iff_eq.2 hx4
              have d4 : (a0_4 != a1_4) = false := by unfold bne; rw [e4]; rfl
              have HX4 := Aside0.mk hx4
              clear hx4
              cases hb5 : lbit a2 5 with
              | false =>
                have q5 : (a2 / 32 % 2 == 1) = false := lfit.n5 hb5
                go_wp2
                go_meet
                case rel => exact ⟨false, rfl, rfl, ⟨fun h => by cases h⟩, ⟨fun _ => ⟨by unfold lsame; rw [hb3]; first | rfl | (rw [HX3.out]; simp), by unfold lsame; rw [hb4]; first | rfl | (rw [HX4.out]; simp), by unfold lsame; rw [hb5]; first | rfl | (rw [HX5.out]; simp)⟩⟩⟩
              | true =>
                have q5 : (a2 / 32 % 2 == 1) = true := lfit.y5 hb5
                by_cases hx5 : a0_5 = a1_5
                · have e5 : (a0_5 == a1_5) = true := beq_iff_eq.2 hx5
                  have d5 : (a0_5 != a1_5) = false := by unfold bne; rw [e5]; rfl
                  have HX5 := Aside0.mk hx5
                  clear hx5
                  go_wp2
                  go_meet
                  case rel => exact ⟨false, rfl, rfl, ⟨fun h => by cases h⟩, ⟨fun _ => ⟨by unfold lsame; rw [hb3]; first | rfl | (rw [HX3.out]; simp), by unfold lsame; rw [hb4]; first | rfl | (rw [HX4.out]; simp), by unfold lsame; rw [hb5]; first | rfl | (rw [HX5.out]; simp)⟩⟩⟩
                · have e5 : (a0_5 == a1_5) = false := beq_eq_false_iff_ne.2 hx5
                  have d5 : (a0_5 != a1_5) = true := by unfold bne; rw [e5]; rfl
                  have L5 : lsame a2 5 a0_5 a1_5 = false := by unfold lsame; rw [hb5, e5]; rfl
                  have HL := Aside0.mk (lfit.no5 a2 a0_0 a0_1 a0_2 a0_3 a0_4 a0_5 a0_6 a0_7 a0_8 a1_0 a1_1 a1_2 a1_3 a1_4 a1_5 a1_6 a1_7 a1_8 L5)
                  clear hx5 L5
                  go_wp2
                  go_meet
                  case rel => exact ⟨true, rfl, rfl, ⟨fun _ => HL.out⟩, ⟨fun h => by cases h⟩⟩
            · have e4 : (a0_4 == a1_4) = false := beq_eq_false_iff_ne.2 hx4
              have d4 : (a0_4 != a1_4) = true := by unfold bne; rw [e4]; rfl
              have L4 : lsame a2 4 a0_4 a1_4 = false := by unfold lsame; rw [hb4, e4]; rfl
              have HL := Aside0.mk (lfit.no4 a2 a0_0 a0_1 a0_2 a0_3 a0_4 a0_5 a0_6 a0_7 a0_8 a1_0 a1_1 a1_2 a1_3 a1_4 a1_5 a1_6 a1_7 a1_8 L4)
              clear hx4 L4
              go_wp2
              go_meet
              case rel => exact ⟨true, rfl, rfl, ⟨fun _ => HL.out⟩, ⟨fun h => by cases h⟩⟩
        | true =>
          have q3 : (a2 / 8 % 2 == 1) = true := lfit.y3 hb3
          by_cases hx3 : a0_3 = a1_3
          · have e3 : (a0_3 == a1_3) = true := beq_iff_eq.2 hx3
            have d3 : (a0_3 != a1_3) = false := by unfold bne; rw [e3]; rfl
            have HX3 := Aside0.mk hx3
            clear hx3
            cases hb4 : lbit a2 4 with
            | false =>
              have q4 : (a2 / 16 % 2 == 1) = false := lfit.n4 hb4
              cases hb5 : lbit a2 5 with
              | false =>
                have q5 : (a2 / 32 % 2 == 1) = false := lfit.n5 hb5
                go_wp2
                go_meet
                case rel => exact ⟨false, rfl, rfl, ⟨fun h => by cases h⟩, ⟨fun _ => ⟨by unfold lsame; rw [hb3]; first | rfl | (rw [HX3.out]; simp), by unfold lsame; rw [hb4]; first | rfl | (rw [HX4.out]; simp), by unfold lsame; rw [hb5]; first | rfl | (rw [HX5.out]; simp)⟩⟩⟩
              | true =>
                have q5 : (a2 / 32 % 2 == 1) = true := lfit.y5 hb5
                by_cases hx5 : a0_5 = a1_5
                · have e5 : (a0_5 == a1_5) = true := beq_iff_eq.2 hx5
                  have d5 : (a0_5 != a1_5) = false := by unfold bne; rw [e5]; rfl
                  have HX5 := Aside0.mk hx5
                  clear hx5
                  go_wp2
                  go_meet
                  case rel => exact ⟨false, rfl, rfl, ⟨fun h => by cases h⟩, ⟨fun _ => ⟨by unfold lsame; rw [hb3]; first | rfl | (rw [HX3.out]; simp), by unfold lsame; rw [hb4]; first | rfl | (rw [HX4.out]; simp), by unfold lsame; rw [hb5]; first | rfl | (rw [HX5.out]; simp)⟩⟩⟩
                · have e5 : (a0_5 == a1_5) = false := beq_eq_false_iff_ne.2 hx5
                  have d5 : (a0_5 != a1_5) = true := by unfold bne; rw [e5]; rfl
                  have L5 : lsame a2 5 a0_5 a1_5 = false := by unfold lsame; rw [hb5, e5]; rfl
                  have HL := Aside0.mk (lfit.no5 a2 a0_0 a0_1 a0_2 a0_3 a0_4 a0_5 a0_6 a0_7 a0_8 a1_0 a1_1 a1_2 a1_3 a1_4 a1_5 a1_6 a1_7 a1_8 L5)
                  clear hx5 L5
                  go_wp2
                  go_meet
                  case rel => exact ⟨true, rfl, rfl, ⟨fun _ => HL.out⟩, ⟨fun h => by cases h⟩⟩
            | true =>
              have q4 : (a2 / 16 % 2 == 1) = true := lfit.y4 hb4
              by_cases hx4 : a0_4 = a1_4
              · have e4 : (a0_4 == a1_4) = true := beq_iff_eq.2 hx4
                have d4 : (a0_4 != a1_4) = false := by unfold bne; rw [e4]; rfl
                have HX4 := Aside0.mk hx4
                clear hx4
                cases hb5 : lbit a2 5 with
                | false =>
                  have q5 : (a2 / 32 % 2 == 1) = false := lfit.n5 hb5
                  go_wp2
                  go_meet
                  case rel => exact ⟨false, rfl, rfl, ⟨fun h => by cases h⟩, ⟨fun _ => ⟨by unfold lsame; rw [hb3]; first | rfl | (rw [HX3.out]; simp), by unfold lsame; rw [hb4]; first | rfl | (rw [HX4.out]; simp), by unfold lsame; rw [hb5]; first | rfl | (rw [HX5.out]; simp)⟩⟩⟩
                | true =>
                  have q5 : (a2 / 32 % 2 == 1) = true := lfit.y5 hb5
                  by_cases hx5 : a0_5 = a1_5
                  · have e5 : (a0_5 == a1_5) = true := beq_iff_eq.2 hx5
                    have d5 : (a0_5 != a1_5) = false := by unfold bne; rw [e5]; rfl
                    have HX5 := Aside0.mk hx5
                    clear hx5
                    go_wp2
                    go_meet
                    case rel => exact ⟨false, rfl, rfl, ⟨fun h => by cases h⟩, ⟨fun _ => ⟨by unfold lsame; rw [hb3]; first | rfl | (rw [HX3.out]; simp), by unfold lsame; rw [hb4]; first | rfl | (rw [HX4.out]; simp), by unfold lsame; rw [hb5]; first | rfl | (rw [HX5.out]; simp)⟩⟩⟩
                  · have e5 : (a0_5 == a1_5) = false := beq_eq_false_iff_ne.2 hx5
                    have d5 : (a0_5 != a1_5) = true := by unfold bne; rw [e5]; rfl
                    have L5 : lsame a2 5 a0_5 a1_5 = false := by unfold lsame; rw [hb5, e5]; rfl
                    have HL := Aside0.mk (lfit.no5 a2 a0_0 a0_1 a0_2 a0_3 a0_4 a0_5 a0_6 a0_7 a0_8 a1_0 a1_1 a1_2 a1_3 a1_4 a1_5 a1_6 a1_7 a1_8 L5)
                    clear hx5 L5
                    go_wp2
                    go_meet
                    case rel => exact ⟨true, rfl, rfl, ⟨fun _ => HL.out⟩, ⟨fun h => by cases h⟩⟩
              · have e4 : (a0_4 == a1_4) = false := beq_eq_false_iff_ne.2 hx4
                have d4 : (a0_4 != a1_4) = true := by unfold bne; rw [e4]; rfl
                have L4 : lsame a2 4 a0_4 a1_4 = false := by unfold lsame; rw [hb4, e4]; rfl
                have HL := Aside0.mk (lfit.no4 a2 a0_0 a0_1 a0_2 a0_3 a0_4 a0_5 a0_6 a0_7 a0_8 a1_0 a1_1 a1_2 a1_3 a1_4 a1_5 a1_6 a1_7 a1_8 L4)
                clear hx4 L4
                go_wp2
                go_meet
                case rel => exact ⟨true, rfl, rfl, ⟨fun _ => HL.out⟩, ⟨fun h => by cases h⟩⟩
          · have e3 : (a0_3 == a1_3) = false := beq_eq_false_iff_ne.2 hx3
            have d3 : (a0_3 != a1_3) = true := by unfold bne; rw [e3]; rfl
            have L3 : lsame a2 3 a0_3 a1_3 = false := by unfold lsame; rw [hb3, e3]; rfl
            have HL := Aside0.mk (lfit.no3 a2 a0_0 a0_1 a0_2 a0_3 a0_4 a0_5 a0_6 a0_7 a0_8 a1_0 a1_1 a1_2 a1_3 a1_4 a1_5 a1_6 a1_7 a1_8 L3)
            clear hx3 L3
            go_wp2
            go_meet
            case rel => exact ⟨true, rfl, rfl, ⟨fun _ => HL.out⟩, ⟨fun h => by cases h⟩⟩
      case rest =>
        obtain ⟨b, rfl, rfl, T, L⟩ := hcut
        cases b with
        | true =>
          go_wp2
          go_ret
          exact ⟨lfit.ret (T.out (by trivial)).symm, hB.out⟩
        | false =>
          obtain ⟨L3, L4, L5⟩ := L.out rfl
          have HL3 := Aside0.mk L3
          have HL4 := Aside0.mk L4
          have HL5 := Aside0.mk L5
          clear T L L3 L4 L5
          cases hb6 : lbit a2 6 with
          | false =>
            have q6 : (a2 / 64 % 2 == 0) = true := lfit.n6 hb6
            cases hb7 : lbit a2 7 with
            | false =>
              have q7 : (a2 / 128 % 2 == 0) = true := lfit.n7 hb7
              cases hb8 : lbit a2 8 with
              | false =>
                have q8 : (a2 / 256 % 2 == 0) = true := lfit.n8 hb8
                go_wp2
                go_ret
                exact ⟨lfit.ret (by unfold lfits; rw [HL0.out, HL1.out, HL2.out, HL3.out, HL4.out, HL5.out, (show lsame a2 6 a0_6 a1_6 = true by unfold lsame; rw [hb6]; first | rfl | (rw [HX6.out]; simp)), (show lsame a2 7 a0_7 a1_7 = true by unfold lsame; rw [hb7]; first | rfl | (rw [HX7.out]; simp)), (show lsame a2 8 a0_8 a1_8 = true by unfold lsame; rw [hb8]; first | rfl | (rw [HX8.out]; simp))]; rfl), hB.out⟩
              | true =>
                have q8 : (a2 / 256 % 2 == 0) = false := lfit.y8 hb8
                by_cases hx8 : a0_8 = a1_8
                · have e8 : (a0_8 == a1_8) = true := beq_iff_eq.2 hx8
                  have d8 : (a0_8 != a1_8) = false := by unfold bne; rw [e8]; rfl
                  have HX8 := Aside0.mk hx8
                  clear hx8
                  go_wp2
                  go_ret
                  exact ⟨lfit.ret (by unfold lfits; rw [HL0.out, HL1.out, HL2.out, HL3.out, HL4.out, HL5.out, (show lsame a2 6 a0_6 a1_6 = true by unfold lsame; rw [hb6]; first | rfl | (rw [HX6.out]; simp)), (show lsame a2 7 a0_7 a1_7 = true by unfold lsame; rw [hb7]; first | rfl | (rw [HX7.out]; simp)), (show lsame a2 8 a0_8 a1_8 = true by unfold lsame; rw [hb8]; first | rfl | (rw [HX8.out]; simp))]; rfl), hB.out⟩
                · have e8 : (a0_8 == a1_8) = false := beq_eq_false_iff_ne.2 hx8
                  have d8 : (a0_8 != a1_8) = true := by unfold bne; rw [e8]; rfl
                  have L8 : lsame a2 8 a0_8 a1_8 = false := by unfold lsame; rw [hb8, e8]; rfl
                  have HL := Aside0.mk (lfit.no8 a2 a0_0 a0_1 a0_2 a0_3 a0_4 a0_5 a0_6 a0_7 a0_8 a1_0 a1_1 a1_2 a1_3 a1_4 a1_5 a1_6 a1_7 a1_8 L8)
                  clear hx8 L8
                  go_wp2
                  go_ret
                  exact ⟨lfit.ret HL.out.symm, hB.out⟩
            | true =>
              have q7 : (a2 / 128 % 2 == 0) = false := lfit.y7 hb7
              by_cases hx7 : a0_7 = a1_7
              · have e7 : (a0_7 == a1_7) = true := beq_iff_eq.2 hx7
                have d7 : (a0_7 != a1_7) = false := by unfold bne; rw [e7]; rfl
                have HX7 := Aside0.mk hx7
                clear hx7
                cases hb8 : lbit a2 8 with
                | false =>
                  have q8 : (a2 / 256 % 2 == 0) = true := lfit.n8 hb8
                  go_wp2
                  go_ret
                  exact ⟨lfit.ret (by unfold lfits; rw [HL0.out, HL1.out, HL2.out, HL3.out, HL4.out, HL5.out, (show lsame a2 6 a0_6 a1_6 = true by unfold lsame; rw [hb6]; first | rfl | (rw [HX6.out]; simp)), (show lsame a2 7 a0_7 a1_7 = true by unfold lsame; rw [hb7]; first | rfl | (rw [HX7.out]; simp)), (show lsame a2 8 a0_8 a1_8 = true by unfold lsame; rw [hb8]; first | rfl | (rw [HX8.out]; simp))]; rfl), hB.out⟩
                | true =>
                  have q8 : (a2 / 256 % 2 == 0) = false := lfit.y8 hb8
                  by_cases hx8 : a0_8 = a1_8
                  · have e8 : (a0_8 == a1_8) = true := beq_iff_eq.2 hx8
                    have d8 : (a0_8 != a1_8) = false := by unfold bne; rw [e8]; rfl
                    have HX8 := Aside0.mk hx8
                    clear hx8
                    go_wp2
                    go_ret
                    exact ⟨lfit.ret (by unfold lfits; rw [HL0.out, HL1.out, HL2.out, HL3.out, HL4.out, HL5.out, (show lsame a2 6 a0_6 a1_6 = true by unfold lsame; rw [hb6]; first | rfl | (rw [HX6.out]; simp)), (show lsame a2 7 a0_7 a1_7 = true by unfold lsame; rw [hb7]; first | rfl | (rw [HX7.out]; simp)), (show lsame a2 8 a0_8 a1_8 = true by unfold lsame; rw [hb8]; first | rfl | (rw [HX8.out]; simp))]; rfl), hB.out⟩
                  · have e8 : (a0_8 == a1_8) = false := beq_eq_false_iff_ne.2 hx8
                    have d8 : (a0_8 != a1_8) = true := by unfold bne; rw [e8]; rfl
                    have L8 : lsame a2 8 a0_8 a1_8 = false := by unfold lsame; rw [hb8, e8]; rfl
                    have HL := Aside0.mk (lfit.no8 a2 a0_0 a0_1 a0_2 a0_3 a0_4 a0_5 a0_6 a0_7 a0_8 a1_0 a1_1 a1_2 a1_3 a1_4 a1_5 a1_6 a1_7 a1_8 L8)
                    clear hx8 L8
                    go_wp2
                    go_ret
                    exact ⟨lfit.ret HL.out.symm, hB.out⟩
              · have e7 : (a0_7 == a1_7) = false := beq_eq_false_iff_ne.2 hx7
                have d7 : (a0_7 != a1_7) = true := by unfold bne; rw [e7]; rfl
                have L7 : lsame a2 7 a0_7 a1_7 = false := by unfold lsame; rw [hb7, e7]; rfl
                have HL := Aside0.mk (lfit.no7 a2 a0_0 a0_1 a0_2 a0_3 a0_4 a0_5 a0_6 a0_7 a0_8 a1_0 a1_1 a1_2 a1_3 a1_4 a1_5 a1_6 a1_7 a1_8 L7)
                clear hx7 L7
                go_wp2
                go_ret
                exact ⟨lfit.ret HL.out.symm, hB.out⟩
          | true =>
            have q6 : (a2 / 64 % 2 == 0) = false := lfit.y6 hb6
            by_cases hx6 : a0_6 = a1_6
            · have e6 : (a0_6 == a1_6) = true := beq_iff_eq.2 hx6
              have d6 : (a0_6 != a1_6) = false := by unfold bne; rw [e6]; rfl
              have HX6 := Aside0.mk hx6
              clear hx6
              cases hb7 : lbit a2 7 with
              | false =>
                have q7 : (a2 / 128 % 2 == 0) = true := lfit.n7 hb7
                cases hb8 : lbit a2 8 with
                | false =>
                  have q8 : (a2 / 256 % 2 == 0) = true := lfit.n8 hb8
                  go_wp2
                  go_ret
                  exact ⟨lfit.ret (by unfold lfits; rw [HL0.out, HL1.out, HL2.out, HL3.out, HL4.out, HL5.out, (show lsame a2 6 a0_6 a1_6 = true by unfold lsame; rw [hb6]; first | rfl | (rw [HX6.out]; simp)), (show lsame a2 7 a0_7 a1_7 = true by unfold lsame; rw [hb7]; first | rfl | (rw [HX7.out]; simp)), (show lsame a2 8 a0_8 a1_8 = true by unfold lsame; rw [hb8]; first | rfl | (rw [HX8.out]; simp))]; rfl), hB.out⟩
                | true =>
                  have q8 : (a2 / 256 % 2 == 0) = false := lfit.y8 hb8
                  by_cases hx8 : a0_8 = a1_8
                  · have e8 : (a0_8 == a1_8) = true := beq_iff_eq.2 hx8
                    have d8 : (a0_8 != a1_8) = false := by unfold bne; rw [e8]; rfl
                    have HX8 := Aside0.mk hx8
                    clear hx8
                    go_wp2
                    go_ret
                    exact ⟨lfit.ret (by unfold lfits; rw [HL0.out, HL1.out, HL2.out, HL3.out, HL4.out, HL5.out, (show lsame a2 6 a0_6 a1_6 = true by unfold lsame; rw [hb6]; first | rfl | (rw [HX6.out]; simp)), (show lsame a2 7 a0_7 a1_7 = true by unfold lsame; rw [hb7]; first | rfl | (rw [HX7.out]; simp)), (show lsame a2 8 a0_8 a1_8 = true by unfold lsame; rw [hb8]; first | rfl | (rw [HX8.out]; simp))]; rfl), hB.out⟩
                  · have e8 : (a0_8 == a1_8) = false := beq_eq_false_iff_ne.2 hx8
                    have d8 : (a0_8 != a1_8) = true := by unfold bne; rw [e8]; rfl
                    have L8 : lsame a2 8 a0_8 a1_8 = false := by unfold lsame; rw [hb8, e8]; rfl
                    have HL := Aside0.mk (lfit.no8 a2 a0_0 a0_1 a0_2 a0_3 a0_4 a0_5 a0_6 a0_7 a0_8 a1_0 a1_1 a1_2 a1_3 a1_4 a1_5 a1_6 a1_7 a1_8 L8)
                    clear hx8 L8
                    go_wp2
                    go_ret
                    exact ⟨lfit.ret HL.out.symm, hB.out⟩
              | true =>
                have q7 : (a2 / 128 % 2 == 0) = false := lfit.y7 hb7
                by_cases hx7 : a0_7 = a1_7
                · have e7 : (a0_7 == a1_7) = true := beq_iff_eq.2 hx7
                  have d7 : (a0_7 != a1_7) = false := by unfold bne; rw [e7]; rfl
                  have HX7 := Aside0.mk hx7
                  clear hx7
                  cases hb8 : lbit a2 8 with
                  | false =>
                    have q8 : (a2 / 256 % 2 == 0) = true := lfit.n8 hb8
                    go_wp2
                    go_ret
                    exact ⟨lfit.ret (by unfold lfits; rw [HL0.out, HL1.out, HL2.out, HL3.out, HL4.out, HL5.out, (show lsame a2 6 a0_6 a1_6 = true by unfold lsame; rw [hb6]; first | rfl | (rw [HX6.out]; simp)), (show lsame a2 7 a0_7 a1_7 = true by unfold lsame; rw [hb7]; first | rfl | (rw [HX7.out]; simp)), (show lsame a2 8 a0_8 a1_8 = true by unfold lsame; rw [hb8]; first | rfl | (rw [HX8.out]; simp))]; rfl), hB.out⟩
                  | true =>
                    have q8 : (a2 / 256 % 2 == 0) = false := lfit.y8 hb8
                    by_cases hx8 : a0_8 = a1_8
                    · have e8 : (a0_8 == a1_8) = true := beq_iff_eq.2 hx8
                      have d8 : (a0_8 != a1_8) = false := by unfold bne; rw [e8]; rfl
                      have HX8 := Aside0.mk hx8
                      clear hx8
                      go_wp2
                      go_ret
                      exact ⟨lfit.ret (by unfold lfits; rw [HL0.out, HL1.out, HL2.out, HL3.out, HL4.out, HL5.out, (show lsame a2 6 a0_6 a1_6 = true by unfold lsame; rw [hb6]; first | rfl | (rw [HX6.out]; simp)), (show lsame a2 7 a0_7 a1_7 = true by unfold lsame; rw [hb7]; first | rfl | (rw [HX7.out]; simp)), (show lsame a2 8 a0_8 a1_8 = true by unfold lsame; rw [hb8]; first | rfl | (rw [HX8.out]; simp))]; rfl), hB.out⟩
                    · have e8 : (a0_8 == a1_8) = false := beq_eq_false_iff_ne.2 hx8
                      have d8 : (a0_8 != a1_8) = true := by unfold bne; rw [e8]; rfl
                      have L8 : lsame a2 8 a0_8 a1_8 = false := by unfold lsame; rw [hb8, e8]; rfl
                      have HL := Aside0.mk (lfit.no8 a2 a0_0 a0_1 a0_2 a0_3 a0_4 a0_5 a0_6 a0_7 a0_8 a1_0 a1_1 a1_2 a1_3 a1_4 a1_5 a1_6 a1_7 a1_8 L8)
                      clear hx8 L8
                      go_wp2
                      go_ret
                      exact ⟨lfit.ret HL.out.symm, hB.out⟩
                · have e7 : (a0_7 == a1_7) = false := beq_eq_false_iff_ne.2 hx7
                  have d7 : (a0_7 != a1_7) = true := by unfold bne; rw [e7]; rfl
                  have L7 : lsame a2 7 a0_7 a1_7 = false := by unfold lsame; rw [hb7, e7]; rfl
                  have HL := Aside0.mk (lfit.no7 a2 a0_0 a0_1 a0_2 a0_3 a0_4 a0_5 a0_6 a0_7 a0_8 a1_0 a1_1 a1_2 a1_3 a1_4 a1_5 a1_6 a1_7 a1_8 L7)
                  clear hx7 L7
                  go_wp2
                  go_ret
                  exact ⟨lfit.ret HL.out.symm, hB.out⟩
            · have e6 : (a0_6 == a1_6) = false := beq_eq_false_iff_ne.2 hx6
              have d6 : (a0_6 != a1_6) = true := by unfold bne; rw [e6]; rfl
              have L6 : lsame a2 6 a0_6 a1_6 = false := by unfold lsame; rw [hb6, e6]; rfl
              have HL := Aside0.mk (lfit.no6 a2 a0_0 a0_1 a0_2 a0_3 a0_4 a0_5 a0_6 a0_7 a0_8 a1_0 a1_1 a1_2 a1_3 a1_4 a1_5 a1_6 a1_7 a1_8 L6)
              clear hx6 L6
              go_wp2
              go_ret
              exact ⟨lfit.ret HL.out.symm, hB.out⟩

/-! ### chamberlainlaw19_LogGives: function 5 -/
mutual
def chamberlainlaw19_LogGives.j0 : Nat → List (S25) → List (S25) → Int → Bool → Option (Bool)
  | 0, _, _, _, _ => none
  | k + 1, x0, x1, x2, x24 => if x24 = true then ((chamberlainlaw19_awake.f k).bind fun t171 => (some t171)) else (if 0 ≤ (x1.length : Int) then (if ((x1.length : Int) : Int).toNat ≤ 281474976710656 then (chamberlainlaw19_LogGives.l0 k x0 x1 (wrap64 (Int.tmod x2 512)) (List.replicate ((x1.length : Int) : Int).toNat false) true 0) else (none)) else (none))
def chamberlainlaw19_LogGives.l0 : Nat → List (S25) → List (S25) → Int → List Bool → Bool → Int → Option (Bool)
  | 0, _, _, _, _, _, _ => none
  | k + 1, x0, x1, x7, x8, x9, x10 => if x10 < (x0.length : Int) then (chamberlainlaw19_LogGives.l1 k x0 x1 x7 x8 x9 x10 false (wrap64 ((x1.length : Int) - 1))) else ((log_Match.f x0 x1 x7).bind fun t175 => (some (t175 == x9)))
def chamberlainlaw19_LogGives.l1 : Nat → List (S25) → List (S25) → Int → List Bool → Bool → Int → Bool → Int → Option (Bool)
  | 0, _, _, _, _, _, _, _, _ => none
  | k + 1, x0, x1, x7, x8, x9, x10, x11, x12 => if x12 ≥ 0 then (chamberlainlaw19_LogGives.j3 k x0 x1 x7 x8 x9 x10 x11 x12 (!x11)) else (chamberlainlaw19_LogGives.j3 k x0 x1 x7 x8 x9 x10 x11 x12 false)
def chamberlainlaw19_LogGives.j3 : Nat → List (S25) → List (S25) → Int → List Bool → Bool → Int → Bool → Int → Bool → Option (Bool)
  | 0, _, _, _, _, _, _, _, _, _ => none
  | k + 1, x0, x1, x7, x8, x9, x10, x11, x12, x46 => if x46 = true then (if 0 ≤ x12 then (if x12 < (x8.length : Int) then (if rdOf false x8 x12 = true then (chamberlainlaw19_LogGives.l1 k x0 x1 x7 x8 x9 x10 x11 (wrap64 (x12 - 1))) else (if x12 < (x1.length : Int) then (if 0 ≤ x10 then (if x10 < (x0.length : Int) then ((chamberlainref19_Fits.f ((rd_T25 x1 x12).f0) ((rd_T25 x1 x12).f1) ((rd_T25 x1 x12).f2) ((rd_T25 x1 x12).f3) ((rd_T25 x1 x12).f4) ((rd_T25 x1 x12).f5) ((rd_T25 x1 x12).f6) ((rd_T25 x1 x12).f7) ((rd_T25 x1 x12).f8) ((rd_T25 x1 x12).f9) ((rd_T25 x0 x10).f0) ((rd_T25 x0 x10).f1) ((rd_T25 x0 x10).f2) ((rd_T25 x0 x10).f3) ((rd_T25 x0 x10).f4) ((rd_T25 x0 x10).f5) ((rd_T25 x0 x10).f6) ((rd_T25 x0 x10).f7) ((rd_T25 x0 x10).f8) ((rd_T25 x0 x10).f9) x7).bind fun t179 => (if t179 = true then (chamberlainlaw19_LogGives.l1 k x0 x1 x7 (x8.set (x12 : Int).toNat true) x9 x10 true (wrap64 (x12 - 1))) else (chamberlainlaw19_LogGives.l1 k x0 x1 x7 x8 x9 x10 x11 (wrap64 (x12 - 1))))) else (none)) else (none)) else (none))) else (none)) else (none)) else (if x9 = true then (chamberlainlaw19_LogGives.l0 k x0 x1 x7 x8 x11 (wrap64 (x10 + 1))) else (chamberlainlaw19_LogGives.l0 k x0 x1 x7 x8 false (wrap64 (x10 + 1))))
end
def chamberlainlaw19_LogGives.f (k : Nat) (l0 : List (S25)) (l1 : List (S25)) (a2 : Int) : Option (Bool) := (chamberlainlaw19_awake.f k).bind fun t170 => (if t170 = true then (if (l0.length : Int) > 60 then (chamberlainlaw19_LogGives.j0 k l0 l1 a2 true) else (chamberlainlaw19_LogGives.j0 k l0 l1 a2 (decide ((l1.length : Int) > 60)))) else (chamberlainlaw19_LogGives.j0 k l0 l1 a2 true))
theorem chamberlainlaw19_LogGives.mono_l : ∀ k, (∀ y0 y1 y2 y3, LeO (chamberlainlaw19_LogGives.j0 k y0 y1 y2 y3) (chamberlainlaw19_LogGives.j0 (k + 1) y0 y1 y2 y3)) ∧ (∀ y0 y1 y2 y3 y4 y5, LeO (chamberlainlaw19_LogGives.l0 k y0 y1 y2 y3 y4 y5) (chamberlainlaw19_LogGives.l0 (k + 1) y0 y1 y2 y3 y4 y5)) ∧ (∀ y0 y1 y2 y3 y4 y5 y6 y7, LeO (chamberlainlaw19_LogGives.l1 k y0 y1 y2 y3 y4 y5 y6 y7) (chamberlainlaw19_LogGives.l1 (k + 1) y0 y1 y2 y3 y4 y5 y6 y7)) ∧ (∀ y0 y1 y2 y3 y4 y5 y6 y7 y8, LeO (chamberlainlaw19_LogGives.j3 k y0 y1 y2 y3 y4 y5 y6 y7 y8) (chamberlainlaw19_LogGives.j3 (k + 1) y0 y1 y2 y3 y4 y5 y6 y7 y8))
  | 0 => ⟨fun _ _ _ _ r h => by simp [chamberlainlaw19_LogGives.j0] at h, fun _ _ _ _ _ _ r h => by simp [chamberlainlaw19_LogGives.l0] at h, fun _ _ _ _ _ _ _ _ r h => by simp [chamberlainlaw19_LogGives.l1] at h, fun _ _ _ _ _ _ _ _ _ r h => by simp [chamberlainlaw19_LogGives.j3] at h⟩
  | k + 1 => by
    obtain ⟨ih0, ih1, ih2, ih3⟩ := chamberlainlaw19_LogGives.mono_l k
    refine ⟨?_, ?_, ?_, ?_⟩
    · intro y0 y1 y2 y3
      unfold chamberlainlaw19_LogGives.j0
      repeat' first
      | (with_reducible exact ih0 _ _ _ _)
      | (with_reducible exact ih1 _ _ _ _ _ _)
      | (with_reducible exact ih2 _ _ _ _ _ _ _ _)
      | (with_reducible exact ih3 _ _ _ _ _ _ _ _ _)
      | (with_reducible exact chamberlainlaw19_awake.mono _)
      | (with_reducible exact LeO.refl _)
      | (with_reducible exact LeO.none _)
      | (with_reducible refine LeO.ite ?_ ?_)
      | (with_reducible refine LeO.bind ?_ (fun _ => ?_))
      | exact ih0 _ _ _ _
      | exact ih1 _ _ _ _ _ _
      | exact ih2 _ _ _ _ _ _ _ _
      | exact ih3 _ _ _ _ _ _ _ _ _
      | exact chamberlainlaw19_awake.mono _
      | exact LeO.none _
      | refine LeO.ite ?_ ?_
      | refine LeO.bind ?_ (fun _ => ?_)
    · intro y0 y1 y2 y3 y4 y5
      unfold chamberlainlaw19_LogGives.l0
      repeat' first
      | (with_reducible exact ih0 _ _ _ _)
      | (with_reducible exact ih1 _ _ _ _ _ _)
      | (with_reducible exact ih2 _ _ _ _ _ _ _ _)
      | (with_reducible exact ih3 _ _ _ _ _ _ _ _ _)
      | (with_reducible exact chamberlainlaw19_awake.mono _)
      | (with_reducible exact LeO.refl _)
      | (with_reducible exact LeO.none _)
      | (with_reducible refine LeO.ite ?_ ?_)
      | (with_reducible refine LeO.bind ?_ (fun _ => ?_))
      | exact ih0 _ _ _ _
      | exact ih1 _ _ _ _ _ _
      | exact ih2 _ _ _ _ _ _ _ _
      | exact ih3 _ _ _ _ _ _ _ _ _
      | exact chamberlainlaw19_awake.mono _
      | exact LeO.none _
      | refine LeO.ite ?_ ?_
      | refine LeO.bind ?_ (fun _ => ?_)
    · intro y0 y1 y2 y3 y4 y5 y6 y7
      unfold chamberlainlaw19_LogGives.l1
      repeat' first
      | (with_reducible exact ih0 _ _ _ _)
      | (with_reducible exact ih1 _ _ _ _ _ _)
      | (with_reducible exact ih2 _ _ _ _ _ _ _ _)
      | (with_reducible exact ih3 _ _ _ _ _ _ _ _ _)
      | (with_reducible exact chamberlainlaw19_awake.mono _)
      | (with_reducible exact LeO.refl _)
      | (with_reducible exact LeO.none _)
      | (with_reducible refine LeO.ite ?_ ?_)
      | (with_reducible refine LeO.bind ?_ (fun _ => ?_))
      | exact ih0 _ _ _ _
      | exact ih1 _ _ _ _ _ _
      | exact ih2 _ _ _ _ _ _ _ _
      | exact ih3 _ _ _ _ _ _ _ _ _
      | exact chamberlainlaw19_awake.mono _
      | exact LeO.none _
      | refine LeO.ite ?_ ?_
      | refine LeO.bind ?_ (fun _ => ?_)
    · intro y0 y1 y2 y3 y4 y5 y6 y7 y8
      unfold chamberlainlaw19_LogGives.j3
      repeat' first
      | (with_reducible exact ih0 _ _ _ _)
      | (with_reducible exact ih1 _ _ _ _ _ _)
      | (with_reducible exact ih2 _ _ _ _ _ _ _ _)
      | (with_reducible exact ih3 _ _ _ _ _ _ _ _ _)
      | (with_reducible exact chamberlainlaw19_awake.mono _)
      | (with_reducible exact LeO.refl _)
      | (with_reducible exact LeO.none _)
      | (with_reducible refine LeO.ite ?_ ?_)
      | (with_reducible refine LeO.bind ?_ (fun _ => ?_))
      | exact ih0 _ _ _ _
      | exact ih1 _ _ _ _ _ _
      | exact ih2 _ _ _ _ _ _ _ _
      | exact ih3 _ _ _ _ _ _ _ _ _
      | exact chamberlainlaw19_awake.mono _
      | exact LeO.none _
      | refine LeO.ite ?_ ?_
      | refine LeO.bind ?_ (fun _ => ?_)
theorem chamberlainlaw19_LogGives.mono : ∀ a0 a1 a2 k, LeO (chamberlainlaw19_LogGives.f k a0 a1 a2) (chamberlainlaw19_LogGives.f (k + 1) a0 a1 a2) := by
  intro a0 a1 a2 k
  obtain ⟨ih0, ih1, ih2, ih3⟩ := chamberlainlaw19_LogGives.mono_l k
  unfold chamberlainlaw19_LogGives.f
  repeat' first
      | (with_reducible exact ih0 _ _ _ _)
      | (with_reducible exact ih1 _ _ _ _ _ _)
      | (with_reducible exact ih2 _ _ _ _ _ _ _ _)
      | (with_reducible exact ih3 _ _ _ _ _ _ _ _ _)
      | (with_reducible exact chamberlainlaw19_awake.mono _)
      | (with_reducible exact LeO.refl _)
      | (with_reducible exact LeO.none _)
      | (with_reducible refine LeO.ite ?_ ?_)
      | (with_reducible refine LeO.bind ?_ (fun _ => ?_))
      | exact ih0 _ _ _ _
      | exact ih1 _ _ _ _ _ _
      | exact ih2 _ _ _ _ _ _ _ _
      | exact ih3 _ _ _ _ _ _ _ _ _
      | exact chamberlainlaw19_awake.mono _
      | exact LeO.none _
      | refine LeO.ite ?_ ?_
      | refine LeO.bind ?_ (fun _ => ?_)
def chamberlainlaw19_LogGives.T13 : Bool × List (List Nat × List Nat) := (true, [([], []), ([], []), ([0, 1], [0, 1]), ([2], [2]), ([3], [3]), ([4], [4]), ([5], [5]), ([5], [5]), ([6, 7, 5], [5, 6, 7]), ([8, 5], [5, 8]), ([5], [5]), ([5], [5]), ([10, 11, 5], [5, 10, 11]), ([12, 5], [5, 12]), ([5], [5]), ([9, 13, 14, 5, 5], [5, 9, 13, 14]), ([5, 15], [5, 15])])
def chamberlainlaw19_LogGives.B13 : List Nat := [0, 0, 3, 7, 15, 31, 63, 63, 255, 511, 63, 63, 3135, 7231, 63, 32767, 65535]
theorem chamberlainlaw19_LogGives.tab13 : rtab .any (opsOf Try.f5 13) = chamberlainlaw19_LogGives.T13 := by kernel_rfl
theorem chamberlainlaw19_LogGives.bits13 : waitsOk chamberlainlaw19_LogGives.T13.2 chamberlainlaw19_LogGives.B13 = true := by kernel_rfl
set_option maxHeartbeats 8000000 in
set_option maxRecDepth 100000 in
theorem chamberlainlaw19_LogGives.calls (k : Nat) (A0 : Option Addr) (c0 : Nat) (l0 : List (S25)) (A1 : Option Addr) (c1 : Nat) (l1 : List (S25)) (a2 : Int) (r : Bool) (w : World) (hr0 : Kd.C k25 w A0 l0.length l0) (hc0 : l0.length ≤ c0) (hr1 : Kd.C k25 w A1 l1.length l1) (hc1 : l1.length ≤ c1) (h : chamberlainlaw19_LogGives.f k l0 l1 a2 = some r) (hT0 : r = true) :
    Calls Try.prog 5 #[.slice A0 l0.length c0, .slice A1 l1.length c1, .int .u16 a2] w fun e w' => e = .returned (.bool r) ∧ Below w.heap.size w w' := by
  have hT := Aside0.mk hT0
  clear hT0
  have hu25 := Try.underlying25
  have HR0 := Aside0.mk hr0
  have HC0 := Aside0.mk hc0
  clear hr0 hc0
  have HR1 := Aside0.mk hr1
  have HC1 := Aside0.mk hc1
  clear hr1 hc1
  have HB := Aside0.mk (Below.refl w.heap.size w)
  have H : ((chamberlainlaw19_awake.f k).bind fun t170 => (if t170 = true then (if (l0.length : Int) > 60 then (chamberlainlaw19_LogGives.j0 k l0 l1 a2 true) else (chamberlainlaw19_LogGives.j0 k l0 l1 a2 (decide ((l1.length : Int) > 60)))) else (chamberlainlaw19_LogGives.j0 k l0 l1 a2 true))) = some r := h
  clear h
  have HC4 := Aside0.mk H
  clear H
  go_enter Try.func5, Try.ntmps5
  go_upto_region 1 with (fail)
  go_cut [24] (fun v24 wc => ∃ (kq : Nat) (x24_3 : Bool), v24 = .bool x24_3 ∧ Aside0 (chamberlainlaw19_LogGives.j0 kq l0 l1 a2 x24_3 = some r) ∧ Aside0 (kq ≤ k) ∧ Aside0 (Below w.heap.size w wc))
  case first =>
    have H := HC4.out
    clear HC4
    replace H := Option.bind_eq_some_iff.mp H
    obtain ⟨t170, A50, H⟩ := H
    replace H : (if t170 = true then (if (l0.length : Int) > 60 then (chamberlainlaw19_LogGives.j0 k l0 l1 a2 true) else (chamberlainlaw19_LogGives.j0 k l0 l1 a2 (decide ((l1.length : Int) > 60)))) else (chamberlainlaw19_LogGives.j0 k l0 l1 a2 true)) = some r := H
    have A5 := Aside0.mk A50
    clear A50
    by_cases c6 : t170 = true
    · subst c6
      have H1 : (if (l0.length : Int) > 60 then (chamberlainlaw19_LogGives.j0 k l0 l1 a2 true) else (chamberlainlaw19_LogGives.j0 k l0 l1 a2 (decide ((l1.length : Int) > 60)))) = some r := by rw [if_pos rfl] at H; exact H
      clear H
      have H := H1
      clear H1
      by_cases c7 : (l0.length : Int) > 60
      · rw [if_pos c7] at H
        have c7b0 : decide (60 < (l0.length : Int)) = true := decide_eq_true c7
        have c7b1 : decide (60 < l0.length) = true := decide_eq_true (by omega)
        clear c7
        (first | rw [c7b0] | (simp only [i64_w, i32_w]; rw [c7b0]) | skip)
        have H' := Aside0.mk H
        clear H
        go_wp2_with (first | ((with_reducible refine gate_callee (f := 9) rfl ?_); refine goesL_ (some 13) rfl rfl Try.func9 (by kernel_rfl) rfl #[] rfl (by (try simp only [List.map_toArray, List.map_cons, List.map_nil]); first | done | rfl | (simp only [List.length_drop, List.length_take]; rfl)) ?_; (with_reducible refine (chamberlainlaw19_awake.calls k  true _ A5.out).mono ?_); rintro e w8 ⟨rfl, hb⟩; refine ⟨_, rfl, ?_⟩; have n0_ := Aside0.mk (below_step (by repeat (first | (with_reducible first | exact HB.out | apply below_alloc | apply pw_below_drewN | apply below_drew1) | exact HB.out)) hb); clear HB; have HB := n0_; clear n0_; (try clear hb); (try clear hb2); (try clear hk); (try clear hi)))
        go_meet
        case rel => exact ⟨_, (true), (by first | rfl | (simp; done) | (simp [*]; done)), H', ⟨by first | omega | exact Nat.le_refl _⟩, ⟨by repeat (first | (with_reducible first | exact HB.out | apply below_alloc | apply pw_below_drewN | apply below_drew1) | exact HB.out)⟩⟩
      · rw [if_neg c7] at H
        have c7b0 : decide (60 < (l0.length : Int)) = false := decide_eq_false c7
        have c7b1 : decide (60 < l0.length) = false := decide_eq_false (by omega)
        clear c7
        (first | rw [c7b0] | (simp only [i64_w, i32_w]; rw [c7b0]) | skip)
        have H' := Aside0.mk H
        clear H
        go_wp2_with (first | ((with_reducible refine gate_callee (f := 9) rfl ?_); refine goesL_ (some 13) rfl rfl Try.func9 (by kernel_rfl) rfl #[] rfl (by (try simp only [List.map_toArray, List.map_cons, List.map_nil]); first | done | rfl | (simp only [List.length_drop, List.length_take]; rfl)) ?_; (with_reducible refine (chamberlainlaw19_awake.calls k  true _ A5.out).mono ?_); rintro e w9 ⟨rfl, hb⟩; refine ⟨_, rfl, ?_⟩; have n0_ := Aside0.mk (below_step (by repeat (first | (with_reducible first | exact HB.out | apply below_alloc | apply pw_below_drewN | apply below_drew1) | exact HB.out)) hb); clear HB; have HB := n0_; clear n0_; (try clear hb); (try clear hb2); (try clear hk); (try clear hi)))
        go_meet
        case rel => exact ⟨_, (decide ((l1.length : Int) > 60)), (by first | rfl | (simp; done) | (simp [*]; done)), H', ⟨by first | omega | exact Nat.le_refl _⟩, ⟨by repeat (first | (with_reducible first | exact HB.out | apply below_alloc | apply pw_below_drewN | apply below_drew1) | exact HB.out)⟩⟩
    · replace c6 := Bool.eq_false_iff.mpr c6
      subst c6
      have H1 : (chamberlainlaw19_LogGives.j0 k l0 l1 a2 true) = some r := by rw [if_neg (show ¬ (false = true) by decide)] at H; exact H
      clear H
      have H := H1
      clear H1
      have H' := Aside0.mk H
      clear H
      go_wp2_with (first | ((with_reducible refine gate_callee (f := 9) rfl ?_); refine goesL_ (some 13) rfl rfl Try.func9 (by kernel_rfl) rfl #[] rfl (by (try simp only [List.map_toArray, List.map_cons, List.map_nil]); first | done | rfl | (simp only [List.length_drop, List.length_take]; rfl)) ?_; (with_reducible refine (chamberlainlaw19_awake.calls k  false _ A5.out).mono ?_); rintro e w10 ⟨rfl, hb⟩; refine ⟨_, rfl, ?_⟩; have n0_ := Aside0.mk (below_step (by repeat (first | (with_reducible first | exact HB.out | apply below_alloc | apply pw_below_drewN | apply below_drew1) | exact HB.out)) hb); clear HB; have HB := n0_; clear n0_; (try clear hb); (try clear hb2); (try clear hk); (try clear hi)))
      go_meet
      case rel => exact ⟨_, (true), (by first | rfl | (simp; done) | (simp [*]; done)), H', ⟨by first | omega | exact Nat.le_refl _⟩, ⟨by repeat (first | (with_reducible first | exact HB.out | apply below_alloc | apply pw_below_drewN | apply below_drew1) | exact HB.out)⟩⟩
  case rest =>
    clear HC4
    try clear c1
    try clear p2
    try clear c5
    try clear c6
    try clear c7
    try clear c7b0
    try clear c7b1
    try clear c9
    obtain ⟨kq, x24_3, rfl, HA, HJ3, HB⟩ := hcut
    cases kq with
    | zero => exact absurd HA.out (by simp [chamberlainlaw19_LogGives.j0])
    | succ kj3 =>
      have H := HA.out
      clear HA
      simp only [chamberlainlaw19_LogGives.j0] at H
      by_cases c11 : x24_3 = true
      · subst c11
        have H1 : ((chamberlainlaw19_awake.f kj3).bind fun t171 => (some t171)) = some r := by rw [if_pos rfl] at H; exact H
        clear H
        have H := H1
        clear H1
        replace H := Option.bind_eq_some_iff.mp H
        obtain ⟨t171, A120, H⟩ := H
        replace H : (some t171) = some r := H
        have A12 := Aside0.mk A120
        clear A120
        obtain rfl := Option.some.inj H
        go_wp2_with (first | ((with_reducible refine gate_callee (f := 9) rfl ?_); refine goesL_ (some 25) rfl rfl Try.func9 (by kernel_rfl) rfl #[] rfl (by (try simp only [List.map_toArray, List.map_cons, List.map_nil]); first | done | rfl | (simp only [List.length_drop, List.length_take]; rfl)) ?_; (with_reducible refine (chamberlainlaw19_awake.calls kj3  t171 _ A12.out).mono ?_); rintro e w13 ⟨rfl, hb⟩; refine ⟨_, rfl, ?_⟩; have n0_ := Aside0.mk (below_step (by repeat (first | (with_reducible first | exact HB.out | apply below_alloc | apply pw_below_drewN | apply below_drew1) | exact HB.out)) hb); clear HB; have HB := n0_; clear n0_; (try clear hb); (try clear hb2); (try clear hk); (try clear hi)))
        go_ret
        exact ⟨by first | rfl | (simp [errW_none, errW_some] <;> rfl) | (simp [*, errW_none, errW_some] <;> rfl), by repeat (first | (with_reducible first | exact HB.out | apply below_alloc | apply pw_below_drewN | apply below_drew1) | exact HB.out)⟩
      · replace c11 := Bool.eq_false_iff.mpr c11
        subst c11
        have H1 : (if 0 ≤ (l1.length : Int) then (if ((l1.length : Int) : Int).toNat ≤ 281474976710656 then (chamberlainlaw19_LogGives.l0 kj3 l0 l1 (wrap64 (Int.tmod a2 512)) (List.replicate ((l1.length : Int) : Int).toNat false) true 0) else (none)) else (none)) = some r := by rw [if_neg (show ¬ (false = true) by decide)] at H; exact H
        clear H
        have H := H1
        clear H1
        by_cases c14 : 0 ≤ (l1.length : Int)
        · rw [if_pos c14] at H
          have c14b0 := eq_true c14
          have c14b1 : decide (0 ≤ (l1.length : Int)) = true := decide_eq_true c14
          clear c14
          by_cases c15 : ((l1.length : Int) : Int).toNat ≤ 281474976710656
          · rw [if_pos c15] at H
            have c15b0 := eq_true c15
            have c15b1 : decide (((l1.length : Int) : Int).toNat ≤ 281474976710656) = true := decide_eq_true c15
            clear c15
            obtain ⟨y172, hy172⟩ : ∃ y_ : List Bool, y_ = (List.replicate ((l1.length : Int) : Int).toNat false) := ⟨_, rfl⟩
            replace H : (chamberlainlaw19_LogGives.l0 kj3 l0 l1 (wrap64 (Int.tmod a2 512)) y172 true 0) = some r := by first | (rw [hy172]; with_reducible exact H) | (have H2_ := (Option.bind_some _ _).symm.trans H; rw [hy172]; with_reducible exact H2_) | (have H2_ := (Option.bind_some _ _).symm.trans H; with_reducible exact H2_) | with_reducible exact H | (rw [hy172]; exact H) | exact H
            have Ny172 := Aside0.mk hy172
            clear hy172
            have H' := Aside0.mk H
            clear H
            go_wp2_with (first | ((with_reducible refine gate_dst (N := 31) rfl ?_); (try (refine gate_guard (by rfl) ?_; dsimp only)); refine Kd.R_make Kd.bool _ 4 rfl (N := 31) rfl 34 _ _ rfl (l1.length : Int) rfl rfl Try.underlying34 (.bool false) 1 info4 rfl (by decide) (by omega) false (ok := fun _ => True) (okp := fun _ => True) rfl (fun _ hk => hk) trivial (of_decide_eq_true (by first | (with_reducible assumption) | assumption)) (Nat.le_trans (Nat.mul_le_mul_right _ (of_decide_eq_true (by first | (with_reducible assumption) | assumption) : (l1.length : Int).toNat ≤ 281474976710656)) (by omega)) (Below.refl _ _) (Nat.le_refl _) ?_; intro v173 w16 ho17 hb hg_ hnew_; clear hg_ hnew_; (first | rw [← Ny172.out] at ho17 | (simp only [Int.reduceToNat] at ho17; rw [← Ny172.out] at ho17)); have n0_ := Aside0.mk (Kd.R_lower ho17 (below_size (by repeat (first | (with_reducible first | exact HB.out | apply below_alloc | apply pw_below_drewN | apply below_drew1) | exact HB.out)))); have n1_ := Aside0.mk (below_step (by repeat (first | (with_reducible first | exact HB.out | apply below_alloc | apply pw_below_drewN | apply below_drew1) | exact HB.out)) hb); clear HB; have HO174 := n0_; have HB := n1_; clear n0_ n1_; clear hb ho17))
            go_loopg [9, 10] kj3 (fun kq v9 v10 w' => ∃ (x8_2 : List Bool) (x9_2 : Bool) (x10_2 : Int), v9 = .bool x9_2 ∧ v10 = .int .i64 x10_2 ∧ Aside0 (chamberlainlaw19_LogGives.l0 kq l0 l1 (wrap64 (Int.tmod a2 512)) x8_2 x9_2 x10_2 = some r) ∧ Aside0 (kq ≤ kj3) ∧ Aside0 (Kd.R Kd.bool 4 w' w.heap.size (fun _ => True) v173 x8_2) ∧ Aside0 (Below w.heap.size w w'))
            case atStart => exact ⟨(y172), (true), (0), (by first | rfl | (simp; done) | (simp [*]; done)), (by first | rfl | (simp; done) | (simp [*]; done)), H', ⟨Nat.le_refl _⟩, ⟨by (with_reducible repeat (first | apply Kd.R_alloc | apply Kd.R_drewN | apply Kd.R_drew)); exact HO174.out⟩, ⟨by repeat (first | (with_reducible first | exact HB.out | apply below_alloc | apply pw_below_drewN | apply below_drew1) | exact HB.out)⟩⟩
            case round =>
              clear H'
              try clear c1
              try clear p2
              try clear c5
              try clear c6
              try clear p6
              try clear c7
              try clear c7b0
              try clear c7b1
              try clear c9
              try clear c11
              try clear c14
              try clear c14b0
              try clear c14b1
              try clear c15
              try clear c15b0
              try clear c15b1
              try clear p2
              obtain ⟨x8_2, x9_2, x10_2, rfl, rfl, HA, HK2, HO_8, HB⟩ := hrel
              cases gk with
              | zero => exact absurd HA.out (by simp [chamberlainlaw19_LogGives.l0])
              | succ k2 =>
                have H := HA.out
                clear HA
                simp only [chamberlainlaw19_LogGives.l0] at H
                by_cases c18 : x10_2 < (l0.length : Int)
                · rw [if_pos c18] at H
                  have c18b0 : decide (x10_2 < (l0.length : Int)) = true := decide_eq_true c18
                  clear c18
                  have H' := Aside0.mk H
                  clear H
                  go_wp2
                  go_loopg [11, 12] k2 (fun kq v11 v12 w' => ∃ (x8_3 : List Bool) (x11_3 : Bool) (x12_3 : Int), v11 = .bool x11_3 ∧ v12 = .int .i64 x12_3 ∧ Aside0 (chamberlainlaw19_LogGives.l1 kq l0 l1 (wrap64 (Int.tmod a2 512)) x8_3 x9_2 x10_2 x11_3 x12_3 = some r) ∧ Aside0 (kq ≤ k2) ∧ Aside0 (Kd.R Kd.bool 4 w' w.heap.size (fun _ => True) v173 x8_3) ∧ Aside0 (Below w.heap.size w w'))
                  case atStart => exact ⟨(x8_2), (false), (wrap64 ((l1.length : Int) - 1)), (by first | rfl | (simp; done) | (simp [*]; done)), (by first | rfl | (simp; done) | (simp [*]; done)), H', ⟨Nat.le_refl _⟩, ⟨by (with_reducible repeat (first | apply Kd.R_alloc | apply Kd.R_drewN | apply Kd.R_drew)); exact HO_8.out⟩, ⟨by repeat (first | (with_reducible first | exact HB.out | apply below_alloc | apply pw_below_drewN | apply below_drew1) | exact HB.out)⟩⟩
                  case round =>
                    clear H'
                    try clear c1
                    try clear p2
                    try clear c5
                    try clear c6
                    try clear p6
                    try clear c7
                    try clear c7b0
                    try clear c7b1
                    try clear c9
                    try clear c11
                    try clear c14
                    try clear c14b0
                    try clear c14b1
                    try clear c15
                    try clear c15b0
                    try clear c15b1
                    try clear c18
                    try clear c18b0
                    try clear p2
                    try clear p6
                    obtain ⟨x8_3, x11_3, x12_3, rfl, rfl, HA, HK3, HO_8, HB⟩ := hrel
                    cases gk with
                    | zero => exact absurd HA.out (by simp [chamberlainlaw19_LogGives.l1])
                    | succ k3 =>
                      have H := HA.out
                      clear HA
                      simp only [chamberlainlaw19_LogGives.l1] at H
                      have HC19 := Aside0.mk H
                      clear H
                      go_upto_region 11 with (fail)
                      go_cut [46] (fun v46 wc => ∃ (kq : Nat) (x46_18 : Bool), v46 = .bool x46_18 ∧ Aside0 (chamberlainlaw19_LogGives.j3 kq l0 l1 (wrap64 (Int.tmod a2 512)) x8_3 x9_2 x10_2 x11_3 x12_3 x46_18 = some r) ∧ Aside0 (kq ≤ k3) ∧ Aside0 (Kd.R Kd.bool 4 wc w.heap.size (fun _ => True) v173 x8_3) ∧ Aside0 (Below w.heap.size w wc))
                      case first =>
                        have H := HC19.out
                        clear HC19
                        by_cases c20 : x12_3 ≥ 0
                        · rw [if_pos c20] at H
                          have c20b0 : decide (0 ≤ x12_3) = true := decide_eq_true c20
                          clear c20
                          (first | rw [c20b0] | (simp only [i64_w, i32_w]; rw [c20b0]) | skip)
                          have H' := Aside0.mk H
                          clear H
                          go_wp2
                          go_meet
                          case rel => exact ⟨_, (!x11_3), (by first | rfl | (simp; done) | (simp [*]; done)), H', ⟨by have := HJ3.out; have := HK2.out; have := HK3.out; first | omega | exact Nat.le_refl _⟩, ⟨by (with_reducible repeat (first | apply Kd.R_alloc | apply Kd.R_drewN | apply Kd.R_drew)); exact HO_8.out⟩, ⟨by repeat (first | (with_reducible first | exact HB.out | apply below_alloc | apply pw_below_drewN | apply below_drew1) | exact HB.out)⟩⟩
                        · rw [if_neg c20] at H
                          have c20b0 : decide (0 ≤ x12_3) = false := decide_eq_false c20
                          clear c20
                          (first | rw [c20b0] | (simp only [i64_w, i32_w]; rw [c20b0]) | skip)
                          have H' := Aside0.mk H
                          clear H
                          go_wp2
                          go_meet
                          case rel => exact ⟨_, (false), (by first | rfl | (simp; done) | (simp [*]; done)), H', ⟨by have := HJ3.out; have := HK2.out; have := HK3.out; first | omega | exact Nat.le_refl _⟩, ⟨by (with_reducible repeat (first | apply Kd.R_alloc | apply Kd.R_drewN | apply Kd.R_drew)); exact HO_8.out⟩, ⟨by repeat (first | (with_reducible first | exact HB.out | apply below_alloc | apply pw_below_drewN | apply below_drew1) | exact HB.out)⟩⟩
                      case rest =>
                        clear HC19
                        try clear c1
                        try clear c2
                        try clear p2
                        try clear c5
                        try clear c6
                        try clear p6
                        try clear c7
                        try clear c7b0
                        try clear c7b1
                        try clear c9
                        try clear c11
                        try clear c14
                        try clear c14b0
                        try clear c14b1
                        try clear c15
                        try clear c15b0
                        try clear c15b1
                        try clear c18
                        try clear c18b0
                        try clear c20
                        try clear c20b0
                        try clear p2
                        try clear p6
                        obtain ⟨kq, x46_18, rfl, HA, HJ18, HO_8, HB⟩ := hcut
                        cases kq with
                        | zero => exact absurd HA.out (by simp [chamberlainlaw19_LogGives.j3])
                        | succ kj18 =>
                          have H := HA.out
                          clear HA
                          simp only [chamberlainlaw19_LogGives.j3] at H
                          by_cases c21 : x46_18 = true
                          · subst c21
                            have H1 : (if 0 ≤ x12_3 then (if x12_3 < (x8_3.length : Int) then (if rdOf false x8_3 x12_3 = true then (chamberlainlaw19_LogGives.l1 kj18 l0 l1 (wrap64 (Int.tmod a2 512)) x8_3 x9_2 x10_2 x11_3 (wrap64 (x12_3 - 1))) else (if x12_3 < (l1.length : Int) then (if 0 ≤ x10_2 then (if x10_2 < (l0.length : Int) then ((chamberlainref19_Fits.f ((rd_T25 l1 x12_3).f0) ((rd_T25 l1 x12_3).f1) ((rd_T25 l1 x12_3).f2) ((rd_T25 l1 x12_3).f3) ((rd_T25 l1 x12_3).f4) ((rd_T25 l1 x12_3).f5) ((rd_T25 l1 x12_3).f6) ((rd_T25 l1 x12_3).f7) ((rd_T25 l1 x12_3).f8) ((rd_T25 l1 x12_3).f9) ((rd_T25 l0 x10_2).f0) ((rd_T25 l0 x10_2).f1) ((rd_T25 l0 x10_2).f2) ((rd_T25 l0 x10_2).f3) ((rd_T25 l0 x10_2).f4) ((rd_T25 l0 x10_2).f5) ((rd_T25 l0 x10_2).f6) ((rd_T25 l0 x10_2).f7) ((rd_T25 l0 x10_2).f8) ((rd_T25 l0 x10_2).f9) (wrap64 (Int.tmod a2 512))).bind fun t179 => (if t179 = true then (chamberlainlaw19_LogGives.l1 kj18 l0 l1 (wrap64 (Int.tmod a2 512)) (x8_3.set (x12_3 : Int).toNat true) x9_2 x10_2 true (wrap64 (x12_3 - 1))) else (chamberlainlaw19_LogGives.l1 kj18 l0 l1 (wrap64 (Int.tmod a2 512)) x8_3 x9_2 x10_2 x11_3 (wrap64 (x12_3 - 1))))) else (none)) else (none)) else (none))) else (none)) else (none)) = some r := by rw [if_pos rfl] at H; exact H
                            clear H
                            have H := H1
                            clear H1
                            by_cases c22 : 0 ≤ x12_3
                            · rw [if_pos c22] at H
                              have c22b0 : decide (0 ≤ x12_3) = true := decide_eq_true c22
                              clear c22
                              by_cases c23 : x12_3 < (x8_3.length : Int)
                              · rw [if_pos c23] at H
                                have c23b0 : decide (x12_3 < (x8_3.length : Int)) = true := decide_eq_true c23
                                clear c23
                                obtain ⟨bq24, hbq24⟩ : ∃ b_ : Bool, b_ = (rdOf false x8_3 x12_3) := ⟨_, rfl⟩
                                replace H : (if bq24 = true then (chamberlainlaw19_LogGives.l1 kj18 l0 l1 (wrap64 (Int.tmod a2 512)) x8_3 x9_2 x10_2 x11_3 (wrap64 (x12_3 - 1))) else (if x12_3 < (l1.length : Int) then (if 0 ≤ x10_2 then (if x10_2 < (l0.length : Int) then ((chamberlainref19_Fits.f ((rd_T25 l1 x12_3).f0) ((rd_T25 l1 x12_3).f1) ((rd_T25 l1 x12_3).f2) ((rd_T25 l1 x12_3).f3) ((rd_T25 l1 x12_3).f4) ((rd_T25 l1 x12_3).f5) ((rd_T25 l1 x12_3).f6) ((rd_T25 l1 x12_3).f7) ((rd_T25 l1 x12_3).f8) ((rd_T25 l1 x12_3).f9) ((rd_T25 l0 x10_2).f0) ((rd_T25 l0 x10_2).f1) ((rd_T25 l0 x10_2).f2) ((rd_T25 l0 x10_2).f3) ((rd_T25 l0 x10_2).f4) ((rd_T25 l0 x10_2).f5) ((rd_T25 l0 x10_2).f6) ((rd_T25 l0 x10_2).f7) ((rd_T25 l0 x10_2).f8) ((rd_T25 l0 x10_2).f9) (wrap64 (Int.tmod a2 512))).bind fun t179 => (if t179 = true then (chamberlainlaw19_LogGives.l1 kj18 l0 l1 (wrap64 (Int.tmod a2 512)) (x8_3.set (x12_3 : Int).toNat true) x9_2 x10_2 true (wrap64 (x12_3 - 1))) else (chamberlainlaw19_LogGives.l1 kj18 l0 l1 (wrap64 (Int.tmod a2 512)) x8_3 x9_2 x10_2 x11_3 (wrap64 (x12_3 - 1))))) else (none)) else (none)) else (none))) = some r := by rw [← hbq24] at H; exact H
                                have Nbq24 := Aside0.mk hbq24
                                clear hbq24
                                by_cases c25 : bq24 = true
                                · subst c25
                                  have H1 : (chamberlainlaw19_LogGives.l1 kj18 l0 l1 (wrap64 (Int.tmod a2 512)) x8_3 x9_2 x10_2 x11_3 (wrap64 (x12_3 - 1))) = some r := by rw [if_pos rfl] at H; exact H
                                  clear H
                                  have H := H1
                                  clear H1
                                  have H' := Aside0.mk H
                                  clear H
                                  try go_wp2
                                  have n0_ := Aside0.mk (Kd.R_drew HO_8.out)
                                  have n1_ := Aside0.mk (below_drew1 HB.out)
                                  clear HO_8
                                  clear HB
                                  have HO_8 := n0_
                                  have HB := n1_
                                  clear n0_ n1_
                                  obtain ⟨Ao27, co27, eo27⟩ := Kd.R_slice HO_8.out
                                  (first | subst eo27 | (injection eo27 with f1_ f2_ f3_; have f4_ := f1_.symm; have f5_ := f3_.symm; clear f1_ f2_ f3_; subst f4_; subst f5_))
                                  have p176 : 0 ≤ (x12_3 : Int) := of_decide_eq_true (by first | (with_reducible assumption) | assumption)
                                  have q176 : x12_3 < (x8_3.length : Int) := of_decide_eq_true (by first | (with_reducible assumption) | assumption)
                                  obtain ⟨ad176, e176, hx176_0⟩ := Kd.at_bool (Kd.R_reads' HO_8.out).2.2 x12_3 p176 q176
                                  (try rw [← Nbq24.out] at hx176_0)
                                  cases e176
                                  replace p176 := eq_true p176
                                  replace q176 := eq_true q176
                                  refine start_ (n := 17) (S := fun w' => w'.cell? (ad176.add (x12_3).toNat) = some (.bool true)) (ds := []) #[false, false, false, false, false, false, false, false, false, false, false, false, false, false, false, false, false] (by kernel_rfl) rfl rfl (hx176_0) (fun hHeld => ?_); refine with_tabW chamberlainlaw19_LogGives.tab13 chamberlainlaw19_LogGives.bits13 (fun HT_ HW_ => ?_)
                                  generalize wc.drew = w26 at HO_8 HB hx176_0 hHeld ⊢
                                  refine pure_ (i := 0) (N := some 49) (v := ?_) (a' := ?_) #[true, false, false, false, false, false, false, false, false, false, false, false, false, false, false, false, false] rfl rfl (any_of HT_.out (by kernel_rfl)) (fun _ _ _ h => h) (Or.inl ⟨by rfl, ?_⟩) ?_ ?_
                                  rotate_left
                                  · intro w'
                                    go_simp
                                    with_reducible rfl
                                  rotate_left
                                  · simp only [Act.put, List.setIfInBounds_toArray, List.set_cons_zero, List.set_cons_succ, i64_w, i32_w]
                                    rfl
                                  refine pure_ (i := 1) (N := some 50) (v := ?_) (a' := ?_) #[true, true, false, false, false, false, false, false, false, false, false, false, false, false, false, false, false] rfl rfl (any_of HT_.out (by kernel_rfl)) (fun _ _ _ h => h) (Or.inl ⟨by rfl, ?_⟩) ?_ ?_
                                  rotate_left
                                  · intro w'
                                    go_simp
                                    with_reducible rfl
                                  rotate_left
                                  · simp only [Act.put, List.setIfInBounds_toArray, List.set_cons_zero, List.set_cons_succ, i64_w, i32_w]
                                    rfl
                                  refine pure_ (i := 2) (N := some 51) (v := ?_) (a' := ?_) #[true, true, true, false, false, false, false, false, false, false, false, false, false, false, false, false, false] rfl rfl (any_of HT_.out (by kernel_rfl)) (fun _ _ _ h => h) (Or.inl ⟨by rfl, ?_⟩) ?_ ?_
                                  rotate_left
                                  · intro w'
                                    go_simp
                                    with_reducible rfl
                                  rotate_left
                                  · simp only [Act.put, List.setIfInBounds_toArray, List.set_cons_zero, List.set_cons_succ, i64_w, i32_w]
                                    rfl
                                  refine take_ (i := 3) (N := some 52) (v := ?_) (a' := ?_) #[true, true, true, true, false, false, false, false, false, false, false, false, false, false, false, false, false] rfl rfl (take_ofW HT_.out HW_.out (by kernel_rfl)) (fun _ _ _ h => h) (Or.inl ⟨by rfl, ?_⟩) hHeld ?_ ?_
                                  rotate_left
                                  · intro w' s0
                                    go_simp
                                    with_reducible rfl
                                  rotate_left
                                  · simp only [Act.put, List.setIfInBounds_toArray, List.set_cons_zero, List.set_cons_succ, i64_w, i32_w]
                                    rfl
                                  refine pure_ (i := 4) (N := some 53) (v := ?_) (a' := ?_) #[true, true, true, true, true, false, false, false, false, false, false, false, false, false, false, false, false] rfl rfl (any_of HT_.out (by kernel_rfl)) (fun _ _ _ h => h) (Or.inl ⟨by rfl, ?_⟩) ?_ ?_
                                  rotate_left
                                  · intro w'
                                    go_simp
                                    with_reducible rfl
                                  rotate_left
                                  · simp only [Act.put, List.setIfInBounds_toArray, List.set_cons_zero, List.set_cons_succ, i64_w, i32_w]
                                    rfl
                                  refine pure_ (i := 5) (N := some 54) (v := ?_) (a' := ?_) #[true, true, true, true, true, true, false, false, false, false, false, false, false, false, false, false, false] rfl rfl (any_of HT_.out (by kernel_rfl)) (fun _ _ _ h => h) (Or.inl ⟨by rfl, ?_⟩) ?_ ?_
                                  rotate_left
                                  · intro w'
                                    go_simp
                                    with_reducible rfl
                                  rotate_left
                                  · simp only [Act.put, List.setIfInBounds_toArray, List.set_cons_zero, List.set_cons_succ, i64_w, i32_w]
                                    rfl
                                  refine pure_ (i := 6) (N := some 55) (v := undef) (a' := ?_) #[true, true, true, true, true, true, true, false, false, false, false, false, false, false, false, false, false] rfl rfl (any_of HT_.out (by kernel_rfl)) (fun _ _ _ h => h) (Or.inr ⟨by rfl, rfl⟩) ?_ ?_
                                  rotate_left
                                  · simp only [Act.put, List.setIfInBounds_toArray, List.set_cons_zero, List.set_cons_succ, i64_w, i32_w]
                                    rfl
                                  refine pure_ (i := 7) (N := some 56) (v := undef) (a' := ?_) #[true, true, true, true, true, true, true, true, false, false, false, false, false, false, false, false, false] rfl rfl (any_of HT_.out (by kernel_rfl)) (fun _ _ _ h => h) (Or.inr ⟨by rfl, rfl⟩) ?_ ?_
                                  rotate_left
                                  · simp only [Act.put, List.setIfInBounds_toArray, List.set_cons_zero, List.set_cons_succ, i64_w, i32_w]
                                    rfl
                                  refine pure_ (i := 8) (N := some 57) (v := undef) (a' := ?_) #[true, true, true, true, true, true, true, true, true, false, false, false, false, false, false, false, false] rfl rfl (any_of HT_.out (by kernel_rfl)) (fun _ _ _ h => h) (Or.inr ⟨by rfl, rfl⟩) ?_ ?_
                                  rotate_left
                                  · simp only [Act.put, List.setIfInBounds_toArray, List.set_cons_zero, List.set_cons_succ, i64_w, i32_w]
                                    rfl
                                  refine pure_ (i := 9) (N := some 58) (v := undef) (a' := ?_) #[true, true, true, true, true, true, true, true, true, true, false, false, false, false, false, false, false] rfl rfl (any_of HT_.out (by kernel_rfl)) (fun _ _ _ h => h) (Or.inr ⟨by rfl, rfl⟩) ?_ ?_
                                  rotate_left
                                  · simp only [Act.put, List.setIfInBounds_toArray, List.set_cons_zero, List.set_cons_succ, i64_w, i32_w]
                                    rfl
                                  refine pure_ (i := 10) (N := some 59) (v := undef) (a' := ?_) #[true, true, true, true, true, true, true, true, true, true, true, false, false, false, false, false, false] rfl rfl (any_of HT_.out (by kernel_rfl)) (fun _ _ _ h => h) (Or.inr ⟨by rfl, rfl⟩) ?_ ?_
                                  rotate_left
                                  · simp only [Act.put, List.setIfInBounds_toArray, List.set_cons_zero, List.set_cons_succ, i64_w, i32_w]
                                    rfl
                                  refine pure_ (i := 11) (N := some 60) (v := undef) (a' := ?_) #[true, true, true, true, true, true, true, true, true, true, true, true, false, false, false, false, false] rfl rfl (any_of HT_.out (by kernel_rfl)) (fun _ _ _ h => h) (Or.inr ⟨by rfl, rfl⟩) ?_ ?_
                                  rotate_left
                                  · simp only [Act.put, List.setIfInBounds_toArray, List.set_cons_zero, List.set_cons_succ, i64_w, i32_w]
                                    rfl
                                  refine pure_ (i := 12) (N := some 61) (v := undef) (a' := ?_) #[true, true, true, true, true, true, true, true, true, true, true, true, true, false, false, false, false] rfl rfl (any_of HT_.out (by kernel_rfl)) (fun _ _ _ h => h) (Or.inr ⟨by rfl, rfl⟩) ?_ ?_
                                  rotate_left
                                  · simp only [Act.put, List.setIfInBounds_toArray, List.set_cons_zero, List.set_cons_succ, i64_w, i32_w]
                                    rfl
                                  refine pure_ (i := 13) (N := some 62) (v := undef) (a' := ?_) #[true, true, true, true, true, true, true, true, true, true, true, true, true, true, false, false, false] rfl rfl (any_of HT_.out (by kernel_rfl)) (fun _ _ _ h => h) (Or.inr ⟨by rfl, rfl⟩) ?_ ?_
                                  rotate_left
                                  · simp only [Act.put, List.setIfInBounds_toArray, List.set_cons_zero, List.set_cons_succ, i64_w, i32_w]
                                    rfl
                                  refine pure_ (i := 14) (N := some 63) (v := undef) (a' := ?_) #[true, true, true, true, true, true, true, true, true, true, true, true, true, true, true, false, false] rfl rfl (any_of HT_.out (by kernel_rfl)) (fun _ _ _ h => h) (Or.inr ⟨by rfl, rfl⟩) ?_ ?_
                                  rotate_left
                                  · simp only [Act.put, List.setIfInBounds_toArray, List.set_cons_zero, List.set_cons_succ, i64_w, i32_w]
                                    rfl
                                  refine pure_ (i := 15) (N := some 64) (v := undef) (a' := ?_) #[true, true, true, true, true, true, true, true, true, true, true, true, true, true, true, true, false] rfl rfl (any_of HT_.out (by kernel_rfl)) (fun _ _ _ h => h) (Or.inr ⟨by rfl, rfl⟩) ?_ ?_
                                  rotate_left
                                  · simp only [Act.put, List.setIfInBounds_toArray, List.set_cons_zero, List.set_cons_succ, i64_w, i32_w]
                                    rfl
                                  refine pure_ (i := 16) (N := some 65) (v := ?_) (a' := ?_) #[true, true, true, true, true, true, true, true, true, true, true, true, true, true, true, true, true] rfl rfl (any_of HT_.out (by kernel_rfl)) (fun _ _ _ h => h) (Or.inl ⟨by rfl, ?_⟩) ?_ ?_
                                  rotate_left
                                  · intro w'
                                    go_simp
                                    with_reducible rfl
                                  rotate_left
                                  · simp only [Act.put, List.setIfInBounds_toArray, List.set_cons_zero, List.set_cons_succ, i64_w, i32_w]
                                    rfl
                                  refine done_ (done_of HT_.out (by kernel_rfl)) ?_
                                  try go_wp2
                                  go_roundg kj18
                                  case measure => have := HJ3.out; have := HK2.out; have := HK3.out; have := HJ18.out; omega
                                  case rel => exact ⟨(x8_3), (x11_3), (wrap64 (x12_3 - 1)), (by first | rfl | (simp; done) | (simp [*]; done)), (by first | rfl | (simp; done) | (simp [*]; done)), H', ⟨by have := HJ3.out; have := HK2.out; have := HK3.out; have := HJ18.out; omega⟩, ⟨by (with_reducible repeat (first | apply Kd.R_alloc | apply Kd.R_drewN | apply Kd.R_drew)); exact HO_8.out⟩, ⟨by repeat (first | (with_reducible first | exact HB.out | apply below_alloc | apply pw_below_drewN | apply below_drew1) | exact HB.out)⟩⟩
                                · replace c25 := Bool.eq_false_iff.mpr c25
                                  subst c25
                                  have H1 : (if x12_3 < (l1.length : Int) then (if 0 ≤ x10_2 then (if x10_2 < (l0.length : Int) then ((chamberlainref19_Fits.f ((rd_T25 l1 x12_3).f0) ((rd_T25 l1 x12_3).f1) ((rd_T25 l1 x12_3).f2) ((rd_T25 l1 x12_3).f3) ((rd_T25 l1 x12_3).f4) ((rd_T25 l1 x12_3).f5) ((rd_T25 l1 x12_3).f6) ((rd_T25 l1 x12_3).f7) ((rd_T25 l1 x12_3).f8) ((rd_T25 l1 x12_3).f9) ((rd_T25 l0 x10_2).f0) ((rd_T25 l0 x10_2).f1) ((rd_T25 l0 x10_2).f2) ((rd_T25 l0 x10_2).f3) ((rd_T25 l0 x10_2).f4) ((rd_T25 l0 x10_2).f5) ((rd_T25 l0 x10_2).f6) ((rd_T25 l0 x10_2).f7) ((rd_T25 l0 x10_2).f8) ((rd_T25 l0 x10_2).f9) (wrap64 (Int.tmod a2 512))).bind fun t179 => (if t179 = true then (chamberlainlaw19_LogGives.l1 kj18 l0 l1 (wrap64 (Int.tmod a2 512)) (x8_3.set (x12_3 : Int).toNat true) x9_2 x10_2 true (wrap64 (x12_3 - 1))) else (chamberlainlaw19_LogGives.l1 kj18 l0 l1 (wrap64 (Int.tmod a2 512)) x8_3 x9_2 x10_2 x11_3 (wrap64 (x12_3 - 1))))) else (none)) else (none)) else (none)) = some r := by rw [if_neg (show ¬ (false = true) by decide)] at H; exact H
                                  clear H
                                  have H := H1
                                  clear H1
                                  by_cases c28 : x12_3 < (l1.length : Int)
                                  · rw [if_pos c28] at H
                                    have c28b0 : decide (x12_3 < (l1.length : Int)) = true := decide_eq_true c28
                                    clear c28
                                    by_cases c29 : 0 ≤ x10_2
                                    · rw [if_pos c29] at H
                                      have c29b0 : decide (0 ≤ x10_2) = true := decide_eq_true c29
                                      clear c29
                                      by_cases c30 : x10_2 < (l0.length : Int)
                                      · rw [if_pos c30] at H
                                        have c30b0 : decide (x10_2 < (l0.length : Int)) = true := decide_eq_true c30
                                        clear c30
                                        replace H := Option.bind_eq_some_iff.mp H
                                        obtain ⟨t179, A310, H⟩ := H
                                        replace H : (if t179 = true then (chamberlainlaw19_LogGives.l1 kj18 l0 l1 (wrap64 (Int.tmod a2 512)) (x8_3.set (x12_3 : Int).toNat true) x9_2 x10_2 true (wrap64 (x12_3 - 1))) else (chamberlainlaw19_LogGives.l1 kj18 l0 l1 (wrap64 (Int.tmod a2 512)) x8_3 x9_2 x10_2 x11_3 (wrap64 (x12_3 - 1)))) = some r := H
                                        have A31 := Aside0.mk A310
                                        clear A310
                                        by_cases c32 : t179 = true
                                        · subst c32
                                          have H1 : (chamberlainlaw19_LogGives.l1 kj18 l0 l1 (wrap64 (Int.tmod a2 512)) (x8_3.set (x12_3 : Int).toNat true) x9_2 x10_2 true (wrap64 (x12_3 - 1))) = some r := by rw [if_pos rfl] at H; exact H
                                          clear H
                                          have H := H1
                                          clear H1
                                          obtain ⟨y180, hy180⟩ : ∃ y_ : List Bool, y_ = (x8_3.set (x12_3 : Int).toNat true) := ⟨_, rfl⟩
                                          replace H : (chamberlainlaw19_LogGives.l1 kj18 l0 l1 (wrap64 (Int.tmod a2 512)) y180 x9_2 x10_2 true (wrap64 (x12_3 - 1))) = some r := by first | (rw [hy180]; with_reducible exact H) | (have H2_ := (Option.bind_some _ _).symm.trans H; rw [hy180]; with_reducible exact H2_) | (have H2_ := (Option.bind_some _ _).symm.trans H; with_reducible exact H2_) | with_reducible exact H | (rw [hy180]; exact H) | exact H
                                          have Ny180 := Aside0.mk hy180
                                          clear hy180
                                          have H' := Aside0.mk H
                                          clear H
                                          try go_wp2
                                          have n0_ := Aside0.mk (Kd.R_drew HO_8.out)
                                          have n1_ := Aside0.mk (below_drew1 HB.out)
                                          clear HO_8
                                          clear HB
                                          have HO_8 := n0_
                                          have HB := n1_
                                          clear n0_ n1_
                                          obtain ⟨Ao35, co35, eo35⟩ := Kd.R_slice HO_8.out
                                          (first | subst eo35 | (injection eo35 with f1_ f2_ f3_; have f4_ := f1_.symm; have f5_ := f3_.symm; clear f1_ f2_ f3_; subst f4_; subst f5_))
                                          have p176 : 0 ≤ (x12_3 : Int) := of_decide_eq_true (by first | (with_reducible assumption) | assumption)
                                          have q176 : x12_3 < (x8_3.length : Int) := of_decide_eq_true (by first | (with_reducible assumption) | assumption)
                                          obtain ⟨ad176, e176, hx176_0⟩ := Kd.at_bool (Kd.R_reads' HO_8.out).2.2 x12_3 p176 q176
                                          (try rw [← Nbq24.out] at hx176_0)
                                          cases e176
                                          replace p176 := eq_true p176
                                          replace q176 := eq_true q176
                                          have p177 : 0 ≤ (x12_3 : Int) := of_decide_eq_true (by first | (with_reducible assumption) | assumption)
                                          have q177 : x12_3 < (l1.length : Int) := of_decide_eq_true (by first | (with_reducible assumption) | assumption)
                                          obtain ⟨ad177, e177, hx177_0, hx177_1, hx177_2, hx177_3, hx177_4, hx177_5, hx177_6, hx177_7, hx177_8, hx177_9⟩ := at_T25 HR1.out x12_3 p177 q177
                                          have hw177_9 := hx177_9
                                          have hw177_8 := hx177_8
                                          have hw177_7 := hx177_7
                                          have hw177_6 := hx177_6
                                          have hw177_5 := hx177_5
                                          have hw177_4 := hx177_4
                                          have hw177_3 := hx177_3
                                          have hw177_2 := hx177_2
                                          have hw177_1 := hx177_1
                                          have hw177_0 := hx177_0
                                          cases e177
                                          replace hx177_0 := (HB.out.cell (World.block_lt_of_cell? w _ hx177_0)).trans hx177_0
                                          replace hx177_1 := (HB.out.cell (World.block_lt_of_cell? w _ hx177_1)).trans hx177_1
                                          replace hx177_2 := (HB.out.cell (World.block_lt_of_cell? w _ hx177_2)).trans hx177_2
                                          replace hx177_3 := (HB.out.cell (World.block_lt_of_cell? w _ hx177_3)).trans hx177_3
                                          replace hx177_4 := (HB.out.cell (World.block_lt_of_cell? w _ hx177_4)).trans hx177_4
                                          replace hx177_5 := (HB.out.cell (World.block_lt_of_cell? w _ hx177_5)).trans hx177_5
                                          replace hx177_6 := (HB.out.cell (World.block_lt_of_cell? w _ hx177_6)).trans hx177_6
                                          replace hx177_7 := (HB.out.cell (World.block_lt_of_cell? w _ hx177_7)).trans hx177_7
                                          replace hx177_8 := (HB.out.cell (World.block_lt_of_cell? w _ hx177_8)).trans hx177_8
                                          replace hx177_9 := (HB.out.cell (World.block_lt_of_cell? w _ hx177_9)).trans hx177_9
                                          replace p177 := eq_true p177
                                          replace q177 := eq_true q177
                                          have p178 : 0 ≤ (x10_2 : Int) := of_decide_eq_true (by first | (with_reducible assumption) | assumption)
                                          have q178 : x10_2 < (l0.length : Int) := of_decide_eq_true (by first | (with_reducible assumption) | assumption)
                                          obtain ⟨ad178, e178, hx178_0, hx178_1, hx178_2, hx178_3, hx178_4, hx178_5, hx178_6, hx178_7, hx178_8, hx178_9⟩ := at_T25 HR0.out x10_2 p178 q178
                                          have hw178_9 := hx178_9
                                          have hw178_8 := hx178_8
                                          have hw178_7 := hx178_7
                                          have hw178_6 := hx178_6
                                          have hw178_5 := hx178_5
                                          have hw178_4 := hx178_4
                                          have hw178_3 := hx178_3
                                          have hw178_2 := hx178_2
                                          have hw178_1 := hx178_1
                                          have hw178_0 := hx178_0
                                          cases e178
                                          replace hx178_0 := (HB.out.cell (World.block_lt_of_cell? w _ hx178_0)).trans hx178_0
                                          replace hx178_1 := (HB.out.cell (World.block_lt_of_cell? w _ hx178_1)).trans hx178_1
                                          replace hx178_2 := (HB.out.cell (World.block_lt_of_cell? w _ hx178_2)).trans hx178_2
                                          replace hx178_3 := (HB.out.cell (World.block_lt_of_cell? w _ hx178_3)).trans hx178_3
                                          replace hx178_4 := (HB.out.cell (World.block_lt_of_cell? w _ hx178_4)).trans hx178_4
                                          replace hx178_5 := (HB.out.cell (World.block_lt_of_cell? w _ hx178_5)).trans hx178_5
                                          replace hx178_6 := (HB.out.cell (World.block_lt_of_cell? w _ hx178_6)).trans hx178_6
                                          replace hx178_7 := (HB.out.cell (World.block_lt_of_cell? w _ hx178_7)).trans hx178_7
                                          replace hx178_8 := (HB.out.cell (World.block_lt_of_cell? w _ hx178_8)).trans hx178_8
                                          replace hx178_9 := (HB.out.cell (World.block_lt_of_cell? w _ hx178_9)).trans hx178_9
                                          replace p178 := eq_true p178
                                          replace q178 := eq_true q178
                                          refine start_ (n := 17) (S := fun w' => w'.cell? (ad176.add (x12_3).toNat) = some (.bool false) ∧ w'.cell? (ad177.add ((x12_3).toNat * 10)) = some (.int .i64 ((rd_T25 l1 x12_3).f0)) ∧ w'.cell? ⟨(ad177.add ((x12_3).toNat * 10)).block, (ad177.add ((x12_3).toNat * 10)).off + 1, none⟩ = some (.int .i64 ((rd_T25 l1 x12_3).f1)) ∧ w'.cell? ⟨(ad177.add ((x12_3).toNat * 10)).block, (ad177.add ((x12_3).toNat * 10)).off + 2, none⟩ = some (.int .i64 ((rd_T25 l1 x12_3).f2)) ∧ w'.cell? ⟨(ad177.add ((x12_3).toNat * 10)).block, (ad177.add ((x12_3).toNat * 10)).off + 3, none⟩ = some (.int .u32 ((rd_T25 l1 x12_3).f3)) ∧ w'.cell? ⟨(ad177.add ((x12_3).toNat * 10)).block, (ad177.add ((x12_3).toNat * 10)).off + 4, none⟩ = some (.int .u32 ((rd_T25 l1 x12_3).f4)) ∧ w'.cell? ⟨(ad177.add ((x12_3).toNat * 10)).block, (ad177.add ((x12_3).toNat * 10)).off + 5, none⟩ = some (.int .u32 ((rd_T25 l1 x12_3).f5)) ∧ w'.cell? ⟨(ad177.add ((x12_3).toNat * 10)).block, (ad177.add ((x12_3).toNat * 10)).off + 6, none⟩ = some (.int .u32 ((rd_T25 l1 x12_3).f6)) ∧ w'.cell? ⟨(ad177.add ((x12_3).toNat * 10)).block, (ad177.add ((x12_3).toNat * 10)).off + 7, none⟩ = some (.int .u32 ((rd_T25 l1 x12_3).f7)) ∧ w'.cell? ⟨(ad177.add ((x12_3).toNat * 10)).block, (ad177.add ((x12_3).toNat * 10)).off + 8, none⟩ = some (.int .u32 ((rd_T25 l1 x12_3).f8)) ∧ w'.cell? ⟨(ad177.add ((x12_3).toNat * 10)).block, (ad177.add ((x12_3).toNat * 10)).off + 9, none⟩ = some (.int .u32 ((rd_T25 l1 x12_3).f9)) ∧ w'.cell? (ad178.add ((x10_2).toNat * 10)) = some (.int .i64 ((rd_T25 l0 x10_2).f0)) ∧ w'.cell? ⟨(ad178.add ((x10_2).toNat * 10)).block, (ad178.add ((x10_2).toNat * 10)).off + 1, none⟩ = some (.int .i64 ((rd_T25 l0 x10_2).f1)) ∧ w'.cell? ⟨(ad178.add ((x10_2).toNat * 10)).block, (ad178.add ((x10_2).toNat * 10)).off + 2, none⟩ = some (.int .i64 ((rd_T25 l0 x10_2).f2)) ∧ w'.cell? ⟨(ad178.add ((x10_2).toNat * 10)).block, (ad178.add ((x10_2).toNat * 10)).off + 3, none⟩ = some (.int .u32 ((rd_T25 l0 x10_2).f3)) ∧ w'.cell? ⟨(ad178.add ((x10_2).toNat * 10)).block, (ad178.add ((x10_2).toNat * 10)).off + 4, none⟩ = some (.int .u32 ((rd_T25 l0 x10_2).f4)) ∧ w'.cell? ⟨(ad178.add ((x10_2).toNat * 10)).block, (ad178.add ((x10_2).toNat * 10)).off + 5, none⟩ = some (.int .u32 ((rd_T25 l0 x10_2).f5)) ∧ w'.cell? ⟨(ad178.add ((x10_2).toNat * 10)).block, (ad178.add ((x10_2).toNat * 10)).off + 6, none⟩ = some (.int .u32 ((rd_T25 l0 x10_2).f6)) ∧ w'.cell? ⟨(ad178.add ((x10_2).toNat * 10)).block, (ad178.add ((x10_2).toNat * 10)).off + 7, none⟩ = some (.int .u32 ((rd_T25 l0 x10_2).f7)) ∧ w'.cell? ⟨(ad178.add ((x10_2).toNat * 10)).block, (ad178.add ((x10_2).toNat * 10)).off + 8, none⟩ = some (.int .u32 ((rd_T25 l0 x10_2).f8)) ∧ w'.cell? ⟨(ad178.add ((x10_2).toNat * 10)).block, (ad178.add ((x10_2).toNat * 10)).off + 9, none⟩ = some (.int .u32 ((rd_T25 l0 x10_2).f9))) (ds := []) #[false, false, false, false, false, false, false, false, false, false, false, false, false, false, false, false, false] (by kernel_rfl) rfl rfl ⟨hx176_0, ((HB.out.cell (World.block_lt_of_cell? w _ hw177_0)).trans hw177_0), ((HB.out.cell (World.block_lt_of_cell? w _ hw177_1)).trans hw177_1), ((HB.out.cell (World.block_lt_of_cell? w _ hw177_2)).trans hw177_2), ((HB.out.cell (World.block_lt_of_cell? w _ hw177_3)).trans hw177_3), ((HB.out.cell (World.block_lt_of_cell? w _ hw177_4)).trans hw177_4), ((HB.out.cell (World.block_lt_of_cell? w _ hw177_5)).trans hw177_5), ((HB.out.cell (World.block_lt_of_cell? w _ hw177_6)).trans hw177_6), ((HB.out.cell (World.block_lt_of_cell? w _ hw177_7)).trans hw177_7), ((HB.out.cell (World.block_lt_of_cell? w _ hw177_8)).trans hw177_8), ((HB.out.cell (World.block_lt_of_cell? w _ hw177_9)).trans hw177_9), ((HB.out.cell (World.block_lt_of_cell? w _ hw178_0)).trans hw178_0), ((HB.out.cell (World.block_lt_of_cell? w _ hw178_1)).trans hw178_1), ((HB.out.cell (World.block_lt_of_cell? w _ hw178_2)).trans hw178_2), ((HB.out.cell (World.block_lt_of_cell? w _ hw178_3)).trans hw178_3), ((HB.out.cell (World.block_lt_of_cell? w _ hw178_4)).trans hw178_4), ((HB.out.cell (World.block_lt_of_cell? w _ hw178_5)).trans hw178_5), ((HB.out.cell (World.block_lt_of_cell? w _ hw178_6)).trans hw178_6), ((HB.out.cell (World.block_lt_of_cell? w _ hw178_7)).trans hw178_7), ((HB.out.cell (World.block_lt_of_cell? w _ hw178_8)).trans hw178_8), ((HB.out.cell (World.block_lt_of_cell? w _ hw178_9)).trans hw178_9)⟩ (fun hHeld => ?_); refine with_tabW chamberlainlaw19_LogGives.tab13 chamberlainlaw19_LogGives.bits13 (fun HT_ HW_ => ?_)
                                          generalize wc.drew = w34 at HO_8 HB hx176_0 hx177_0 hx177_1 hx177_2 hx177_3 hx177_4 hx177_5 hx177_6 hx177_7 hx177_8 hx177_9 hx178_0 hx178_1 hx178_2 hx178_3 hx178_4 hx178_5 hx178_6 hx178_7 hx178_8 hx178_9 hHeld ⊢
                                          refine pure_ (i := 0) (N := some 49) (v := ?_) (a' := ?_) #[true, false, false, false, false, false, false, false, false, false, false, false, false, false, false, false, false] rfl rfl (any_of HT_.out (by kernel_rfl)) (fun _ _ _ h => h) (Or.inl ⟨by rfl, ?_⟩) ?_ ?_
                                          rotate_left
                                          · intro w'
                                            go_simp
                                            with_reducible rfl
                                          rotate_left
                                          · simp only [Act.put, List.setIfInBounds_toArray, List.set_cons_zero, List.set_cons_succ, i64_w, i32_w]
                                            rfl
                                          refine pure_ (i := 1) (N := some 50) (v := ?_) (a' := ?_) #[true, true, false, false, false, false, false, false, false, false, false, false, false, false, false, false, false] rfl rfl (any_of HT_.out (by kernel_rfl)) (fun _ _ _ h => h) (Or.inl ⟨by rfl, ?_⟩) ?_ ?_
                                          rotate_left
                                          · intro w'
                                            go_simp
                                            with_reducible rfl
                                          rotate_left
                                          · simp only [Act.put, List.setIfInBounds_toArray, List.set_cons_zero, List.set_cons_succ, i64_w, i32_w]
                                            rfl
                                          refine pure_ (i := 2) (N := some 51) (v := ?_) (a' := ?_) #[true, true, true, false, false, false, false, false, false, false, false, false, false, false, false, false, false] rfl rfl (any_of HT_.out (by kernel_rfl)) (fun _ _ _ h => h) (Or.inl ⟨by rfl, ?_⟩) ?_ ?_
                                          rotate_left
                                          · intro w'
                                            go_simp
                                            with_reducible rfl
                                          rotate_left
                                          · simp only [Act.put, List.setIfInBounds_toArray, List.set_cons_zero, List.set_cons_succ, i64_w, i32_w]
                                            rfl
                                          refine take_ (i := 3) (N := some 52) (v := ?_) (a' := ?_) #[true, true, true, true, false, false, false, false, false, false, false, false, false, false, false, false, false] rfl rfl (take_ofW HT_.out HW_.out (by kernel_rfl)) (fun _ _ _ h => h) (Or.inl ⟨by rfl, ?_⟩) hHeld ?_ ?_
                                          rotate_left
                                          · rintro w' ⟨s0, s1, s2, s3, s4, s5, s6, s7, s8, s9, s10, s11, s12, s13, s14, s15, s16, s17, s18, s19, s20⟩
                                            go_simp
                                            with_reducible rfl
                                          rotate_left
                                          · simp only [Act.put, List.setIfInBounds_toArray, List.set_cons_zero, List.set_cons_succ, i64_w, i32_w]
                                            rfl
                                          refine pure_ (i := 4) (N := some 53) (v := ?_) (a' := ?_) #[true, true, true, true, true, false, false, false, false, false, false, false, false, false, false, false, false] rfl rfl (any_of HT_.out (by kernel_rfl)) (fun _ _ _ h => h) (Or.inl ⟨by rfl, ?_⟩) ?_ ?_
                                          rotate_left
                                          · intro w'
                                            go_simp
                                            with_reducible rfl
                                          rotate_left
                                          · simp only [Act.put, List.setIfInBounds_toArray, List.set_cons_zero, List.set_cons_succ, i64_w, i32_w]
                                            rfl
                                          refine pure_ (i := 5) (N := some 54) (v := ?_) (a' := ?_) #[true, true, true, true, true, true, false, false, false, false, false, false, false, false, false, false, false] rfl rfl (any_of HT_.out (by kernel_rfl)) (fun _ _ _ h => h) (Or.inl ⟨by rfl, ?_⟩) ?_ ?_
                                          rotate_left
                                          · intro w'
                                            go_simp
                                            with_reducible rfl
                                          rotate_left
                                          · simp only [Act.put, List.setIfInBounds_toArray, List.set_cons_zero, List.set_cons_succ, i64_w, i32_w]
                                            rfl
                                          refine pure_ (i := 6) (N := some 55) (v := ?_) (a' := ?_) #[true, true, true, true, true, true, true, false, false, false, false, false, false, false, false, false, false] rfl rfl (any_of HT_.out (by kernel_rfl)) (fun _ _ _ h => h) (Or.inl ⟨by rfl, ?_⟩) ?_ ?_
                                          rotate_left
                                          · intro w'
                                            go_simp
                                            with_reducible rfl
                                          rotate_left
                                          · simp only [Act.put, List.setIfInBounds_toArray, List.set_cons_zero, List.set_cons_succ, i64_w, i32_w]
                                            rfl
                                          refine pure_ (i := 7) (N := some 56) (v := ?_) (a' := ?_) #[true, true, true, true, true, true, true, true, false, false, false, false, false, false, false, false, false] rfl rfl (any_of HT_.out (by kernel_rfl)) (fun _ _ _ h => h) (Or.inl ⟨by rfl, ?_⟩) ?_ ?_
                                          rotate_left
                                          · intro w'
                                            go_simp
                                            with_reducible rfl
                                          rotate_left
                                          · simp only [Act.put, List.setIfInBounds_toArray, List.set_cons_zero, List.set_cons_succ, i64_w, i32_w]
                                            rfl
                                          refine pure_ (i := 8) (N := some 57) (v := ?_) (a' := ?_) #[true, true, true, true, true, true, true, true, true, false, false, false, false, false, false, false, false] rfl rfl (any_of HT_.out (by kernel_rfl)) (fun _ _ _ h => h) (Or.inl ⟨by rfl, ?_⟩) ?_ ?_
                                          rotate_left
                                          · intro w'
                                            go_simp
                                            with_reducible rfl
                                          rotate_left
                                          · simp only [Act.put, List.setIfInBounds_toArray, List.set_cons_zero, List.set_cons_succ, i64_w, i32_w]
                                            rfl
                                          refine pure_ (i := 10) (N := some 59) (v := ?_) (a' := ?_) #[true, true, true, true, true, true, true, true, true, false, true, false, false, false, false, false, false] rfl rfl (any_of HT_.out (by kernel_rfl)) (fun _ _ _ h => h) (Or.inl ⟨by rfl, ?_⟩) ?_ ?_
                                          rotate_left
                                          · intro w'
                                            go_simp
                                            with_reducible rfl
                                          rotate_left
                                          · simp only [Act.put, List.setIfInBounds_toArray, List.set_cons_zero, List.set_cons_succ, i64_w, i32_w]
                                            rfl
                                          refine pure_ (i := 11) (N := some 60) (v := ?_) (a' := ?_) #[true, true, true, true, true, true, true, true, true, false, true, true, false, false, false, false, false] rfl rfl (any_of HT_.out (by kernel_rfl)) (fun _ _ _ h => h) (Or.inl ⟨by rfl, ?_⟩) ?_ ?_
                                          rotate_left
                                          · intro w'
                                            go_simp
                                            with_reducible rfl
                                          rotate_left
                                          · simp only [Act.put, List.setIfInBounds_toArray, List.set_cons_zero, List.set_cons_succ, i64_w, i32_w]
                                            rfl
                                          refine pure_ (i := 12) (N := some 61) (v := ?_) (a' := ?_) #[true, true, true, true, true, true, true, true, true, false, true, true, true, false, false, false, false] rfl rfl (any_of HT_.out (by kernel_rfl)) (fun _ _ _ h => h) (Or.inl ⟨by rfl, ?_⟩) ?_ ?_
                                          rotate_left
                                          · intro w'
                                            go_simp
                                            with_reducible rfl
                                          rotate_left
                                          · simp only [Act.put, List.setIfInBounds_toArray, List.set_cons_zero, List.set_cons_succ, i64_w, i32_w]
                                            rfl
                                          refine pure_ (i := 14) (N := some 63) (v := ?_) (a' := ?_) #[true, true, true, true, true, true, true, true, true, false, true, true, true, false, true, false, false] rfl rfl (any_of HT_.out (by kernel_rfl)) (fun _ _ _ h => h) (Or.inl ⟨by rfl, ?_⟩) ?_ ?_
                                          rotate_left
                                          · intro w'
                                            go_simp
                                            with_reducible rfl
                                          rotate_left
                                          · simp only [Act.put, List.setIfInBounds_toArray, List.set_cons_zero, List.set_cons_succ, i64_w, i32_w]
                                            rfl
                                          refine take_ (i := 9) (N := some 58) (v := ?_) (a' := ?_) #[true, true, true, true, true, true, true, true, true, true, true, true, true, false, true, false, false] rfl rfl (take_ofW HT_.out HW_.out (by kernel_rfl)) (fun _ _ _ h => h) (Or.inl ⟨by rfl, ?_⟩) hHeld ?_ ?_
                                          rotate_left
                                          · rintro w' ⟨s0, s1, s2, s3, s4, s5, s6, s7, s8, s9, s10, s11, s12, s13, s14, s15, s16, s17, s18, s19, s20⟩
                                            go_simp
                                            with_reducible rfl
                                          rotate_left
                                          · simp only [Act.put, List.setIfInBounds_toArray, List.set_cons_zero, List.set_cons_succ, i64_w, i32_w]
                                            rfl
                                          refine take_ (i := 13) (N := some 62) (v := ?_) (a' := ?_) #[true, true, true, true, true, true, true, true, true, true, true, true, true, true, true, false, false] rfl rfl (take_ofW HT_.out HW_.out (by kernel_rfl)) (fun _ _ _ h => h) (Or.inl ⟨by rfl, ?_⟩) hHeld ?_ ?_
                                          rotate_left
                                          · rintro w' ⟨s0, s1, s2, s3, s4, s5, s6, s7, s8, s9, s10, s11, s12, s13, s14, s15, s16, s17, s18, s19, s20⟩
                                            go_simp
                                            with_reducible rfl
                                          rotate_left
                                          · simp only [Act.put, List.setIfInBounds_toArray, List.set_cons_zero, List.set_cons_succ, i64_w, i32_w]
                                            rfl
                                          refine one_ (i := 15) (N := some 64) #[true, true, true, true, true, true, true, true, true, true, true, true, true, true, true, true, false] rfl rfl (one_of HT_.out (by kernel_rfl)) (by decide) (fun K hK => ?_)
                                          refine goes_ Try.func11 (by kernel_rfl) rfl #[.agg #[.int .i64 ((rd_T25 l1 x12_3).f0), .int .i64 ((rd_T25 l1 x12_3).f1), .int .i64 ((rd_T25 l1 x12_3).f2), .int .u32 ((rd_T25 l1 x12_3).f3), .int .u32 ((rd_T25 l1 x12_3).f4), .int .u32 ((rd_T25 l1 x12_3).f5), .int .u32 ((rd_T25 l1 x12_3).f6), .int .u32 ((rd_T25 l1 x12_3).f7), .int .u32 ((rd_T25 l1 x12_3).f8), .int .u32 ((rd_T25 l1 x12_3).f9)], .agg #[.int .i64 ((rd_T25 l0 x10_2).f0), .int .i64 ((rd_T25 l0 x10_2).f1), .int .i64 ((rd_T25 l0 x10_2).f2), .int .u32 ((rd_T25 l0 x10_2).f3), .int .u32 ((rd_T25 l0 x10_2).f4), .int .u32 ((rd_T25 l0 x10_2).f5), .int .u32 ((rd_T25 l0 x10_2).f6), .int .u32 ((rd_T25 l0 x10_2).f7), .int .u32 ((rd_T25 l0 x10_2).f8), .int .u32 ((rd_T25 l0 x10_2).f9)], .int .i64 (wrap64 (Int.tmod a2 512))] (by rfl) rfl rfl (by (try simp only [List.map_toArray, List.map_cons, List.map_nil]); first | done | rfl | (simp only [List.length_drop, List.length_take]; rfl)) ?_
                                          with_reducible refine (chamberlainref19_Fits.calls ((rd_T25 l1 x12_3).f0) ((rd_T25 l1 x12_3).f1) ((rd_T25 l1 x12_3).f2) ((rd_T25 l1 x12_3).f3) ((rd_T25 l1 x12_3).f4) ((rd_T25 l1 x12_3).f5) ((rd_T25 l1 x12_3).f6) ((rd_T25 l1 x12_3).f7) ((rd_T25 l1 x12_3).f8) ((rd_T25 l1 x12_3).f9) ((rd_T25 l0 x10_2).f0) ((rd_T25 l0 x10_2).f1) ((rd_T25 l0 x10_2).f2) ((rd_T25 l0 x10_2).f3) ((rd_T25 l0 x10_2).f4) ((rd_T25 l0 x10_2).f5) ((rd_T25 l0 x10_2).f6) ((rd_T25 l0 x10_2).f7) ((rd_T25 l0 x10_2).f8) ((rd_T25 l0 x10_2).f9) (wrap64 (Int.tmod a2 512)) true _ A31.out).mono ?_
                                          rintro e w36 ⟨rfl, hb⟩
                                          have HS0_ := (hb.cell (World.block_lt_of_cell? _ _ (hHeld.1))).trans (hHeld.1)
                                          refine ⟨_, rfl, ?_⟩
                                          have n0_ := Aside0.mk (Kd.R_below (by (with_reducible repeat (first | apply Kd.R_alloc | apply Kd.R_drewN | apply Kd.R_drew)); exact HO_8.out) hb)
                                          have n1_ := Aside0.mk (below_step (by repeat (first | (with_reducible first | exact HB.out | apply below_alloc | apply pw_below_drewN | apply below_drew1) | exact HB.out)) hb)
                                          clear HO_8
                                          clear HB
                                          have HO_8 := n0_
                                          have HB := n1_
                                          clear n0_ n1_
                                          (try clear hb)
                                          (try clear hb2)
                                          (try clear hk)
                                          (try clear hi)
                                          refine hK.out _ _ ⟨HS0_, ((HB.out.cell (World.block_lt_of_cell? w _ hw177_0)).trans hw177_0), ((HB.out.cell (World.block_lt_of_cell? w _ hw177_1)).trans hw177_1), ((HB.out.cell (World.block_lt_of_cell? w _ hw177_2)).trans hw177_2), ((HB.out.cell (World.block_lt_of_cell? w _ hw177_3)).trans hw177_3), ((HB.out.cell (World.block_lt_of_cell? w _ hw177_4)).trans hw177_4), ((HB.out.cell (World.block_lt_of_cell? w _ hw177_5)).trans hw177_5), ((HB.out.cell (World.block_lt_of_cell? w _ hw177_6)).trans hw177_6), ((HB.out.cell (World.block_lt_of_cell? w _ hw177_7)).trans hw177_7), ((HB.out.cell (World.block_lt_of_cell? w _ hw177_8)).trans hw177_8), ((HB.out.cell (World.block_lt_of_cell? w _ hw177_9)).trans hw177_9), ((HB.out.cell (World.block_lt_of_cell? w _ hw178_0)).trans hw178_0), ((HB.out.cell (World.block_lt_of_cell? w _ hw178_1)).trans hw178_1), ((HB.out.cell (World.block_lt_of_cell? w _ hw178_2)).trans hw178_2), ((HB.out.cell (World.block_lt_of_cell? w _ hw178_3)).trans hw178_3), ((HB.out.cell (World.block_lt_of_cell? w _ hw178_4)).trans hw178_4), ((HB.out.cell (World.block_lt_of_cell? w _ hw178_5)).trans hw178_5), ((HB.out.cell (World.block_lt_of_cell? w _ hw178_6)).trans hw178_6), ((HB.out.cell (World.block_lt_of_cell? w _ hw178_7)).trans hw178_7), ((HB.out.cell (World.block_lt_of_cell? w _ hw178_8)).trans hw178_8), ((HB.out.cell (World.block_lt_of_cell? w _ hw178_9)).trans hw178_9)⟩ (fun hHeld => ?_)
                                          clear hK K
                                          refine norm_ (a' := ?_) ?_ ?_
                                          rotate_left
                                          · show Act.put _ (some 64) _ = _
                                            simp only [Act.put, List.setIfInBounds_toArray, List.set_cons_zero, List.set_cons_succ, i64_w, i32_w]
                                            rfl
                                          refine pure_ (i := 16) (N := some 65) (v := ?_) (a' := ?_) #[true, true, true, true, true, true, true, true, true, true, true, true, true, true, true, true, true] rfl rfl (any_of HT_.out (by kernel_rfl)) (fun _ _ _ h => h) (Or.inl ⟨by rfl, ?_⟩) ?_ ?_
                                          rotate_left
                                          · intro w'
                                            go_simp
                                            with_reducible rfl
                                          rotate_left
                                          · simp only [Act.put, List.setIfInBounds_toArray, List.set_cons_zero, List.set_cons_succ, i64_w, i32_w]
                                            rfl
                                          refine done_ (done_of HT_.out (by kernel_rfl)) ?_
                                          have p33 : 0 ≤ (x12_3 : Int) := of_decide_eq_true (by first | (with_reducible assumption) | assumption)
                                          have q33 : (x12_3 : Int) < ((x8_3.length : Int) : Int) := of_decide_eq_true (by first | (with_reducible assumption) | assumption)
                                          obtain ⟨go33, co33, eo33, gb33, gl33, cl33, HG33⟩ := Kd.R_form HO_8.out (by omega)
                                          (first | cases eo33 | (injection eo33 with ea_ en_ ec_; (first | subst ea_ | (injection ea_ with ea_; subst ea_)); subst ec_; clear en_))
                                          have GB33 := Aside0.mk gb33
                                          have GG33 := Aside0.mk HG33
                                          clear gb33 gl33 HG33
                                          (first | simp only [add_plain] at hx176_0 | skip)
                                          obtain ⟨hx33_0, hf33_0⟩ := Kd.R_celln false HO_8.out (x12_3 : Int) p33 q33
                                          replace p33 := eq_true p33
                                          replace q33 := eq_true q33
                                          obtain ⟨hy37_, hz37_⟩ := Kd.R_celln false HO_8.out (x12_3 : Int) (of_decide_eq_true (by first | (with_reducible assumption) | assumption)) (of_decide_eq_true (by first | (with_reducible assumption) | assumption))
                                          have HP37 := Kd.R_putg HO_8.out (x12_3 : Int) true
                                          try go_wp2_with (first | ((with_reducible refine gate_store (t := 4) (p := 68) rfl ?_); refine store_event (t := 4) (p := 68) (v := ?vo_w38) (w1 := (w36.setCell ⟨go33, (x12_3 : Int).toNat, none⟩ (.bool true))) ?hg ?ho ?hn ?hr ?_; (case ho => rfl); (case hg => rfl); (case hn => rfl); (case hr => first | (go_simp; done) | (go_simp; rfl)); intro w38 hw; have hg : w36.grownBy w38 (some go33) := (by rw [hw]; exact HP37.2); have hp_ : Kd.R Kd.bool 4 w38 w.heap.size (fun _ => True) (.slice (some ⟨go33, 0, none⟩) x8_3.length co35) y180 := (by rw [hw, Ny180.out]; exact HP37.1); clear HP37; have n0_ := Aside0.mk (hp_); have n1_ := Aside0.mk ((by rw [hw]; exact below_set (HB.out) GB33.out : Below w.heap.size w w38)); clear HO_8; clear HB; have HO_8 := n0_; have HB := n1_; clear n0_ n1_; clear hg hw hp_))
                                          go_roundg kj18
                                          case measure => have := HJ3.out; have := HK2.out; have := HK3.out; have := HJ18.out; omega
                                          case rel => exact ⟨(y180), (true), (wrap64 (x12_3 - 1)), (by first | rfl | (simp; done) | (simp [*]; done)), (by first | rfl | (simp; done) | (simp [*]; done)), H', ⟨by have := HJ3.out; have := HK2.out; have := HK3.out; have := HJ18.out; omega⟩, ⟨by (with_reducible repeat (first | apply Kd.R_alloc | apply Kd.R_drewN | apply Kd.R_drew)); exact HO_8.out⟩, ⟨by repeat (first | (with_reducible first | exact HB.out | apply below_alloc | apply pw_below_drewN | apply below_drew1) | exact HB.out)⟩⟩
                                        · replace c32 := Bool.eq_false_iff.mpr c32
                                          subst c32
                                          have H1 : (chamberlainlaw19_LogGives.l1 kj18 l0 l1 (wrap64 (Int.tmod a2 512)) x8_3 x9_2 x10_2 x11_3 (wrap64 (x12_3 - 1))) = some r := by rw [if_neg (show ¬ (false = true) by decide)] at H; exact H
                                          clear H
                                          have H := H1
                                          clear H1
                                          have H' := Aside0.mk H
                                          clear H
                                          try go_wp2
                                          have n0_ := Aside0.mk (Kd.R_drew HO_8.out)
                                          have n1_ := Aside0.mk (below_drew1 HB.out)
                                          clear HO_8
                                          clear HB
                                          have HO_8 := n0_
                                          have HB := n1_
                                          clear n0_ n1_
                                          obtain ⟨Ao40, co40, eo40⟩ := Kd.R_slice HO_8.out
                                          (first | subst eo40 | (injection eo40 with f1_ f2_ f3_; have f4_ := f1_.symm; have f5_ := f3_.symm; clear f1_ f2_ f3_; subst f4_; subst f5_))
                                          have p176 : 0 ≤ (x12_3 : Int) := of_decide_eq_true (by first | (with_reducible assumption) | assumption)
                                          have q176 : x12_3 < (x8_3.length : Int) := of_decide_eq_true (by first | (with_reducible assumption) | assumption)
                                          obtain ⟨ad176, e176, hx176_0⟩ := Kd.at_bool (Kd.R_reads' HO_8.out).2.2 x12_3 p176 q176
                                          (try rw [← Nbq24.out] at hx176_0)
                                          cases e176
                                          replace p176 := eq_true p176
                                          replace q176 := eq_true q176
                                          have p177 : 0 ≤ (x12_3 : Int) := of_decide_eq_true (by first | (with_reducible assumption) | assumption)
                                          have q177 : x12_3 < (l1.length : Int) := of_decide_eq_true (by first | (with_reducible assumption) | assumption)
                                          obtain ⟨ad177, e177, hx177_0, hx177_1, hx177_2, hx177_3, hx177_4, hx177_5, hx177_6, hx177_7, hx177_8, hx177_9⟩ := at_T25 HR1.out x12_3 p177 q177
                                          have hw177_9 := hx177_9
                                          have hw177_8 := hx177_8
                                          have hw177_7 := hx177_7
                                          have hw177_6 := hx177_6
                                          have hw177_5 := hx177_5
                                          have hw177_4 := hx177_4
                                          have hw177_3 := hx177_3
                                          have hw177_2 := hx177_2
                                          have hw177_1 := hx177_1
                                          have hw177_0 := hx177_0
                                          cases e177
                                          replace hx177_0 := (HB.out.cell (World.block_lt_of_cell? w _ hx177_0)).trans hx177_0
                                          replace hx177_1 := (HB.out.cell (World.block_lt_of_cell? w _ hx177_1)).trans hx177_1
                                          replace hx177_2 := (HB.out.cell (World.block_lt_of_cell? w _ hx177_2)).trans hx177_2
                                          replace hx177_3 := (HB.out.cell (World.block_lt_of_cell? w _ hx177_3)).trans hx177_3
                                          replace hx177_4 := (HB.out.cell (World.block_lt_of_cell? w _ hx177_4)).trans hx177_4
                                          replace hx177_5 := (HB.out.cell (World.block_lt_of_cell? w _ hx177_5)).trans hx177_5
                                          replace hx177_6 := (HB.out.cell (World.block_lt_of_cell? w _ hx177_6)).trans hx177_6
                                          replace hx177_7 := (HB.out.cell (World.block_lt_of_cell? w _ hx177_7)).trans hx177_7
                                          replace hx177_8 := (HB.out.cell (World.block_lt_of_cell? w _ hx177_8)).trans hx177_8
                                          replace hx177_9 := (HB.out.cell (World.block_lt_of_cell? w _ hx177_9)).trans hx177_9
                                          replace p177 := eq_true p177
                                          replace q177 := eq_true q177
                                          have p178 : 0 ≤ (x10_2 : Int) := of_decide_eq_true (by first | (with_reducible assumption) | assumption)
                                          have q178 : x10_2 < (l0.length : Int) := of_decide_eq_true (by first | (with_reducible assumption) | assumption)
                                          obtain ⟨ad178, e178, hx178_0, hx178_1, hx178_2, hx178_3, hx178_4, hx178_5, hx178_6, hx178_7, hx178_8, hx178_9⟩ := at_T25 HR0.out x10_2 p178 q178
                                          have hw178_9 := hx178_9
                                          have hw178_8 := hx178_8
                                          have hw178_7 := hx178_7
                                          have hw178_6 := hx178_6
                                          have hw178_5 := hx178_5
                                          have hw178_4 := hx178_4
                                          have hw178_3 := hx178_3
                                          have hw178_2 := hx178_2
                                          have hw178_1 := hx178_1
                                          have hw178_0 := hx178_0
                                          cases e178
                                          replace hx178_0 := (HB.out.cell (World.block_lt_of_cell? w _ hx178_0)).trans hx178_0
                                          replace hx178_1 := (HB.out.cell (World.block_lt_of_cell? w _ hx178_1)).trans hx178_1
                                          replace hx178_2 := (HB.out.cell (World.block_lt_of_cell? w _ hx178_2)).trans hx178_2
                                          replace hx178_3 := (HB.out.cell (World.block_lt_of_cell? w _ hx178_3)).trans hx178_3
                                          replace hx178_4 := (HB.out.cell (World.block_lt_of_cell? w _ hx178_4)).trans hx178_4
                                          replace hx178_5 := (HB.out.cell (World.block_lt_of_cell? w _ hx178_5)).trans hx178_5
                                          replace hx178_6 := (HB.out.cell (World.block_lt_of_cell? w _ hx178_6)).trans hx178_6
                                          replace hx178_7 := (HB.out.cell (World.block_lt_of_cell? w _ hx178_7)).trans hx178_7
                                          replace hx178_8 := (HB.out.cell (World.block_lt_of_cell? w _ hx178_8)).trans hx178_8
                                          replace hx178_9 := (HB.out.cell (World.block_lt_of_cell? w _ hx178_9)).trans hx178_9
                                          replace p178 := eq_true p178
                                          replace q178 := eq_true q178
                                          refine start_ (n := 17) (S := fun w' => w'.cell? (ad176.add (x12_3).toNat) = some (.bool false) ∧ w'.cell? (ad177.add ((x12_3).toNat * 10)) = some (.int .i64 ((rd_T25 l1 x12_3).f0)) ∧ w'.cell? ⟨(ad177.add ((x12_3).toNat * 10)).block, (ad177.add ((x12_3).toNat * 10)).off + 1, none⟩ = some (.int .i64 ((rd_T25 l1 x12_3).f1)) ∧ w'.cell? ⟨(ad177.add ((x12_3).toNat * 10)).block, (ad177.add ((x12_3).toNat * 10)).off + 2, none⟩ = some (.int .i64 ((rd_T25 l1 x12_3).f2)) ∧ w'.cell? ⟨(ad177.add ((x12_3).toNat * 10)).block, (ad177.add ((x12_3).toNat * 10)).off + 3, none⟩ = some (.int .u32 ((rd_T25 l1 x12_3).f3)) ∧ w'.cell? ⟨(ad177.add ((x12_3).toNat * 10)).block, (ad177.add ((x12_3).toNat * 10)).off + 4, none⟩ = some (.int .u32 ((rd_T25 l1 x12_3).f4)) ∧ w'.cell? ⟨(ad177.add ((x12_3).toNat * 10)).block, (ad177.add ((x12_3).toNat * 10)).off + 5, none⟩ = some (.int .u32 ((rd_T25 l1 x12_3).f5)) ∧ w'.cell? ⟨(ad177.add ((x12_3).toNat * 10)).block, (ad177.add ((x12_3).toNat * 10)).off + 6, none⟩ = some (.int .u32 ((rd_T25 l1 x12_3).f6)) ∧ w'.cell? ⟨(ad177.add ((x12_3).toNat * 10)).block, (ad177.add ((x12_3).toNat * 10)).off + 7, none⟩ = some (.int .u32 ((rd_T25 l1 x12_3).f7)) ∧ w'.cell? ⟨(ad177.add ((x12_3).toNat * 10)).block, (ad177.add ((x12_3).toNat * 10)).off + 8, none⟩ = some (.int .u32 ((rd_T25 l1 x12_3).f8)) ∧ w'.cell? ⟨(ad177.add ((x12_3).toNat * 10)).block, (ad177.add ((x12_3).toNat * 10)).off + 9, none⟩ = some (.int .u32 ((rd_T25 l1 x12_3).f9)) ∧ w'.cell? (ad178.add ((x10_2).toNat * 10)) = some (.int .i64 ((rd_T25 l0 x10_2).f0)) ∧ w'.cell? ⟨(ad178.add ((x10_2).toNat * 10)).block, (ad178.add ((x10_2).toNat * 10)).off + 1, none⟩ = some (.int .i64 ((rd_T25 l0 x10_2).f1)) ∧ w'.cell? ⟨(ad178.add ((x10_2).toNat * 10)).block, (ad178.add ((x10_2).toNat * 10)).off + 2, none⟩ = some (.int .i64 ((rd_T25 l0 x10_2).f2)) ∧ w'.cell? ⟨(ad178.add ((x10_2).toNat * 10)).block, (ad178.add ((x10_2).toNat * 10)).off + 3, none⟩ = some (.int .u32 ((rd_T25 l0 x10_2).f3)) ∧ w'.cell? ⟨(ad178.add ((x10_2).toNat * 10)).block, (ad178.add ((x10_2).toNat * 10)).off + 4, none⟩ = some (.int .u32 ((rd_T25 l0 x10_2).f4)) ∧ w'.cell? ⟨(ad178.add ((x10_2).toNat * 10)).block, (ad178.add ((x10_2).toNat * 10)).off + 5, none⟩ = some (.int .u32 ((rd_T25 l0 x10_2).f5)) ∧ w'.cell? ⟨(ad178.add ((x10_2).toNat * 10)).block, (ad178.add ((x10_2).toNat * 10)).off + 6, none⟩ = some (.int .u32 ((rd_T25 l0 x10_2).f6)) ∧ w'.cell? ⟨(ad178.add ((x10_2).toNat * 10)).block, (ad178.add ((x10_2).toNat * 10)).off + 7, none⟩ = some (.int .u32 ((rd_T25 l0 x10_2).f7)) ∧ w'.cell? ⟨(ad178.add ((x10_2).toNat * 10)).block, (ad178.add ((x10_2).toNat * 10)).off + 8, none⟩ = some (.int .u32 ((rd_T25 l0 x10_2).f8)) ∧ w'.cell? ⟨(ad178.add ((x10_2).toNat * 10)).block, (ad178.add ((x10_2).toNat * 10)).off + 9, none⟩ = some (.int .u32 ((rd_T25 l0 x10_2).f9))) (ds := []) #[false, false, false, false, false, false, false, false, false, false, false, false, false, false, false, false, false] (by kernel_rfl) rfl rfl ⟨hx176_0, ((HB.out.cell (World.block_lt_of_cell? w _ hw177_0)).trans hw177_0), ((HB.out.cell (World.block_lt_of_cell? w _ hw177_1)).trans hw177_1), ((HB.out.cell (World.block_lt_of_cell? w _ hw177_2)).trans hw177_2), ((HB.out.cell (World.block_lt_of_cell? w _ hw177_3)).trans hw177_3), ((HB.out.cell (World.block_lt_of_cell? w _ hw177_4)).trans hw177_4), ((HB.out.cell (World.block_lt_of_cell? w _ hw177_5)).trans hw177_5), ((HB.out.cell (World.block_lt_of_cell? w _ hw177_6)).trans hw177_6), ((HB.out.cell (World.block_lt_of_cell? w _ hw177_7)).trans hw177_7), ((HB.out.cell (World.block_lt_of_cell? w _ hw177_8)).trans hw177_8), ((HB.out.cell (World.block_lt_of_cell? w _ hw177_9)).trans hw177_9), ((HB.out.cell (World.block_lt_of_cell? w _ hw178_0)).trans hw178_0), ((HB.out.cell (World.block_lt_of_cell? w _ hw178_1)).trans hw178_1), ((HB.out.cell (World.block_lt_of_cell? w _ hw178_2)).trans hw178_2), ((HB.out.cell (World.block_lt_of_cell? w _ hw178_3)).trans hw178_3), ((HB.out.cell (World.block_lt_of_cell? w _ hw178_4)).trans hw178_4), ((HB.out.cell (World.block_lt_of_cell? w _ hw178_5)).trans hw178_5), ((HB.out.cell (World.block_lt_of_cell? w _ hw178_6)).trans hw178_6), ((HB.out.cell (World.block_lt_of_cell? w _ hw178_7)).trans hw178_7), ((HB.out.cell (World.block_lt_of_cell? w _ hw178_8)).trans hw178_8), ((HB.out.cell (World.block_lt_of_cell? w _ hw178_9)).trans hw178_9)⟩ (fun hHeld => ?_); refine with_tabW chamberlainlaw19_LogGives.tab13 chamberlainlaw19_LogGives.bits13 (fun HT_ HW_ => ?_)
                                          generalize wc.drew = w39 at HO_8 HB hx176_0 hx177_0 hx177_1 hx177_2 hx177_3 hx177_4 hx177_5 hx177_6 hx177_7 hx177_8 hx177_9 hx178_0 hx178_1 hx178_2 hx178_3 hx178_4 hx178_5 hx178_6 hx178_7 hx178_8 hx178_9 hHeld ⊢
                                          refine pure_ (i := 0) (N := some 49) (v := ?_) (a' := ?_) #[true, false, false, false, false, false, false, false, false, false, false, false, false, false, false, false, false] rfl rfl (any_of HT_.out (by kernel_rfl)) (fun _ _ _ h => h) (Or.inl ⟨by rfl, ?_⟩) ?_ ?_
                                          rotate_left
                                          · intro w'
                                            go_simp
                                            with_reducible rfl
                                          rotate_left
                                          · simp only [Act.put, List.setIfInBounds_toArray, List.set_cons_zero, List.set_cons_succ, i64_w, i32_w]
                                            rfl
                                          refine pure_ (i := 1) (N := some 50) (v := ?_) (a' := ?_) #[true, true, false, false, false, false, false, false, false, false, false, false, false, false, false, false, false] rfl rfl (any_of HT_.out (by kernel_rfl)) (fun _ _ _ h => h) (Or.inl ⟨by rfl, ?_⟩) ?_ ?_
                                          rotate_left
                                          · intro w'
                                            go_simp
                                            with_reducible rfl
                                          rotate_left
                                          · simp only [Act.put, List.setIfInBounds_toArray, List.set_cons_zero, List.set_cons_succ, i64_w, i32_w]
                                            rfl
                                          refine pure_ (i := 2) (N := some 51) (v := ?_) (a' := ?_) #[true, true, true, false, false, false, false, false, false, false, false, false, false, false, false, false, false] rfl rfl (any_of HT_.out (by kernel_rfl)) (fun _ _ _ h => h) (Or.inl ⟨by rfl, ?_⟩) ?_ ?_
                                          rotate_left
                                          · intro w'
                                            go_simp
                                            with_reducible rfl
                                          rotate_left
                                          · simp only [Act.put, List.setIfInBounds_toArray, List.set_cons_zero, List.set_cons_succ, i64_w, i32_w]
                                            rfl
                                          refine take_ (i := 3) (N := some 52) (v := ?_) (a' := ?_) #[true, true, true, true, false, false, false, false, false, false, false, false, false, false, false, false, false] rfl rfl (take_ofW HT_.out HW_.out (by kernel_rfl)) (fun _ _ _ h => h) (Or.inl ⟨by rfl, ?_⟩) hHeld ?_ ?_
                                          rotate_left
                                          · rintro w' ⟨s0, s1, s2, s3, s4, s5, s6, s7, s8, s9, s10, s11, s12, s13, s14, s15, s16, s17, s18, s19, s20⟩
                                            go_simp
                                            with_reducible rfl
                                          rotate_left
                                          · simp only [Act.put, List.setIfInBounds_toArray, List.set_cons_zero, List.set_cons_succ, i64_w, i32_w]
                                            rfl
                                          refine pure_ (i := 4) (N := some 53) (v := ?_) (a' := ?_) #[true, true, true, true, true, false, false, false, false, false, false, false, false, false, false, false, false] rfl rfl (any_of HT_.out (by kernel_rfl)) (fun _ _ _ h => h) (Or.inl ⟨by rfl, ?_⟩) ?_ ?_
                                          rotate_left
                                          · intro w'
                                            go_simp
                                            with_reducible rfl
                                          rotate_left
                                          · simp only [Act.put, List.setIfInBounds_toArray, List.set_cons_zero, List.set_cons_succ, i64_w, i32_w]
                                            rfl
                                          refine pure_ (i := 5) (N := some 54) (v := ?_) (a' := ?_) #[true, true, true, true, true, true, false, false, false, false, false, false, false, false, false, false, false] rfl rfl (any_of HT_.out (by kernel_rfl)) (fun _ _ _ h => h) (Or.inl ⟨by rfl, ?_⟩) ?_ ?_
                                          rotate_left
                                          · intro w'
                                            go_simp
                                            with_reducible rfl
                                          rotate_left
                                          · simp only [Act.put, List.setIfInBounds_toArray, List.set_cons_zero, List.set_cons_succ, i64_w, i32_w]
                                            rfl
                                          refine pure_ (i := 6) (N := some 55) (v := ?_) (a' := ?_) #[true, true, true, true, true, true, true, false, false, false, false, false, false, false, false, false, false] rfl rfl (any_of HT_.out (by kernel_rfl)) (fun _ _ _ h => h) (Or.inl ⟨by rfl, ?_⟩) ?_ ?_
                                          rotate_left
                                          · intro w'
                                            go_simp
                                            with_reducible rfl
                                          rotate_left
                                          · simp only [Act.put, List.setIfInBounds_toArray, List.set_cons_zero, List.set_cons_succ, i64_w, i32_w]
                                            rfl
                                          refine pure_ (i := 7) (N := some 56) (v := ?_) (a' := ?_) #[true, true, true, true, true, true, true, true, false, false, false, false, false, false, false, false, false] rfl rfl (any_of HT_.out (by kernel_rfl)) (fun _ _ _ h => h) (Or.inl ⟨by rfl, ?_⟩) ?_ ?_
                                          rotate_left
                                          · intro w'
                                            go_simp
                                            with_reducible rfl
                                          rotate_left
                                          · simp only [Act.put, List.setIfInBounds_toArray, List.set_cons_zero, List.set_cons_succ, i64_w, i32_w]
                                            rfl
                                          refine pure_ (i := 8) (N := some 57) (v := ?_) (a' := ?_) #[true, true, true, true, true, true, true, true, true, false, false, false, false, false, false, false, false] rfl rfl (any_of HT_.out (by kernel_rfl)) (fun _ _ _ h => h) (Or.inl ⟨by rfl, ?_⟩) ?_ ?_
                                          rotate_left
                                          · intro w'
                                            go_simp
                                            with_reducible rfl
                                          rotate_left
                                          · simp only [Act.put, List.setIfInBounds_toArray, List.set_cons_zero, List.set_cons_succ, i64_w, i32_w]
                                            rfl
                                          refine pure_ (i := 10) (N := some 59) (v := ?_) (a' := ?_) #[true, true, true, true, true, true, true, true, true, false, true, false, false, false, false, false, false] rfl rfl (any_of HT_.out (by kernel_rfl)) (fun _ _ _ h => h) (Or.inl ⟨by rfl, ?_⟩) ?_ ?_
                                          rotate_left
                                          · intro w'
                                            go_simp
                                            with_reducible rfl
                                          rotate_left
                                          · simp only [Act.put, List.setIfInBounds_toArray, List.set_cons_zero, List.set_cons_succ, i64_w, i32_w]
                                            rfl
                                          refine pure_ (i := 11) (N := some 60) (v := ?_) (a' := ?_) #[true, true, true, true, true, true, true, true, true, false, true, true, false, false, false, false, false] rfl rfl (any_of HT_.out (by kernel_rfl)) (fun _ _ _ h => h) (Or.inl ⟨by rfl, ?_⟩) ?_ ?_
                                          rotate_left
                                          · intro w'
                                            go_simp
                                            with_reducible rfl
                                          rotate_left
                                          · simp only [Act.put, List.setIfInBounds_toArray, List.set_cons_zero, List.set_cons_succ, i64_w, i32_w]
                                            rfl
                                          refine pure_ (i := 12) (N := some 61) (v := ?_) (a' := ?_) #[true, true, true, true, true, true, true, true, true, false, true, true, true, false, false, false, false] rfl rfl (any_of HT_.out (by kernel_rfl)) (fun _ _ _ h => h) (Or.inl ⟨by rfl, ?_⟩) ?_ ?_
                                          rotate_left
                                          · intro w'
                                            go_simp
                                            with_reducible rfl
                                          rotate_left
                                          · simp only [Act.put, List.setIfInBounds_toArray, List.set_cons_zero, List.set_cons_succ, i64_w, i32_w]
                                            rfl
                                          refine pure_ (i := 14) (N := some 63) (v := ?_) (a' := ?_) #[true, true, true, true, true, true, true, true, true, false, true, true, true, false, true, false, false] rfl rfl (any_of HT_.out (by kernel_rfl)) (fun _ _ _ h => h) (Or.inl ⟨by rfl, ?_⟩) ?_ ?_
                                          rotate_left
                                          · intro w'
                                            go_simp
                                            with_reducible rfl
                                          rotate_left
                                          · simp only [Act.put, List.setIfInBounds_toArray, List.set_cons_zero, List.set_cons_succ, i64_w, i32_w]
                                            rfl
                                          refine take_ (i := 9) (N := some 58) (v := ?_) (a' := ?_) #[true, true, true, true, true, true, true, true, true, true, true, true, true, false, true, false, false] rfl rfl (take_ofW HT_.out HW_.out (by kernel_rfl)) (fun _ _ _ h => h) (Or.inl ⟨by rfl, ?_⟩) hHeld ?_ ?_
                                          rotate_left
                                          · rintro w' ⟨s0, s1, s2, s3, s4, s5, s6, s7, s8, s9, s10, s11, s12, s13, s14, s15, s16, s17, s18, s19, s20⟩
                                            go_simp
                                            with_reducible rfl
                                          rotate_left
                                          · simp only [Act.put, List.setIfInBounds_toArray, List.set_cons_zero, List.set_cons_succ, i64_w, i32_w]
                                            rfl
                                          refine take_ (i := 13) (N := some 62) (v := ?_) (a' := ?_) #[true, true, true, true, true, true, true, true, true, true, true, true, true, true, true, false, false] rfl rfl (take_ofW HT_.out HW_.out (by kernel_rfl)) (fun _ _ _ h => h) (Or.inl ⟨by rfl, ?_⟩) hHeld ?_ ?_
                                          rotate_left
                                          · rintro w' ⟨s0, s1, s2, s3, s4, s5, s6, s7, s8, s9, s10, s11, s12, s13, s14, s15, s16, s17, s18, s19, s20⟩
                                            go_simp
                                            with_reducible rfl
                                          rotate_left
                                          · simp only [Act.put, List.setIfInBounds_toArray, List.set_cons_zero, List.set_cons_succ, i64_w, i32_w]
                                            rfl
                                          refine one_ (i := 15) (N := some 64) #[true, true, true, true, true, true, true, true, true, true, true, true, true, true, true, true, false] rfl rfl (one_of HT_.out (by kernel_rfl)) (by decide) (fun K hK => ?_)
                                          refine goes_ Try.func11 (by kernel_rfl) rfl #[.agg #[.int .i64 ((rd_T25 l1 x12_3).f0), .int .i64 ((rd_T25 l1 x12_3).f1), .int .i64 ((rd_T25 l1 x12_3).f2), .int .u32 ((rd_T25 l1 x12_3).f3), .int .u32 ((rd_T25 l1 x12_3).f4), .int .u32 ((rd_T25 l1 x12_3).f5), .int .u32 ((rd_T25 l1 x12_3).f6), .int .u32 ((rd_T25 l1 x12_3).f7), .int .u32 ((rd_T25 l1 x12_3).f8), .int .u32 ((rd_T25 l1 x12_3).f9)], .agg #[.int .i64 ((rd_T25 l0 x10_2).f0), .int .i64 ((rd_T25 l0 x10_2).f1), .int .i64 ((rd_T25 l0 x10_2).f2), .int .u32 ((rd_T25 l0 x10_2).f3), .int .u32 ((rd_T25 l0 x10_2).f4), .int .u32 ((rd_T25 l0 x10_2).f5), .int .u32 ((rd_T25 l0 x10_2).f6), .int .u32 ((rd_T25 l0 x10_2).f7), .int .u32 ((rd_T25 l0 x10_2).f8), .int .u32 ((rd_T25 l0 x10_2).f9)], .int .i64 (wrap64 (Int.tmod a2 512))] (by rfl) rfl rfl (by (try simp only [List.map_toArray, List.map_cons, List.map_nil]); first | done | rfl | (simp only [List.length_drop, List.length_take]; rfl)) ?_
                                          with_reducible refine (chamberlainref19_Fits.calls ((rd_T25 l1 x12_3).f0) ((rd_T25 l1 x12_3).f1) ((rd_T25 l1 x12_3).f2) ((rd_T25 l1 x12_3).f3) ((rd_T25 l1 x12_3).f4) ((rd_T25 l1 x12_3).f5) ((rd_T25 l1 x12_3).f6) ((rd_T25 l1 x12_3).f7) ((rd_T25 l1 x12_3).f8) ((rd_T25 l1 x12_3).f9) ((rd_T25 l0 x10_2).f0) ((rd_T25 l0 x10_2).f1) ((rd_T25 l0 x10_2).f2) ((rd_T25 l0 x10_2).f3) ((rd_T25 l0 x10_2).f4) ((rd_T25 l0 x10_2).f5) ((rd_T25 l0 x10_2).f6) ((rd_T25 l0 x10_2).f7) ((rd_T25 l0 x10_2).f8) ((rd_T25 l0 x10_2).f9) (wrap64 (Int.tmod a2 512)) false _ A31.out).mono ?_
                                          rintro e w41 ⟨rfl, hb⟩
                                          have HS0_ := (hb.cell (World.block_lt_of_cell? _ _ (hHeld.1))).trans (hHeld.1)
                                          refine ⟨_, rfl, ?_⟩
                                          have n0_ := Aside0.mk (Kd.R_below (by (with_reducible repeat (first | apply Kd.R_alloc | apply Kd.R_drewN | apply Kd.R_drew)); exact HO_8.out) hb)
                                          have n1_ := Aside0.mk (below_step (by repeat (first | (with_reducible first | exact HB.out | apply below_alloc | apply pw_below_drewN | apply below_drew1) | exact HB.out)) hb)
                                          clear HO_8
                                          clear HB
                                          have HO_8 := n0_
                                          have HB := n1_
                                          clear n0_ n1_
                                          (try clear hb)
                                          (try clear hb2)
                                          (try clear hk)
                                          (try clear hi)
                                          refine hK.out _ _ ⟨HS0_, ((HB.out.cell (World.block_lt_of_cell? w _ hw177_0)).trans hw177_0), ((HB.out.cell (World.block_lt_of_cell? w _ hw177_1)).trans hw177_1), ((HB.out.cell (World.block_lt_of_cell? w _ hw177_2)).trans hw177_2), ((HB.out.cell (World.block_lt_of_cell? w _ hw177_3)).trans hw177_3), ((HB.out.cell (World.block_lt_of_cell? w _ hw177_4)).trans hw177_4), ((HB.out.cell (World.block_lt_of_cell? w _ hw177_5)).trans hw177_5), ((HB.out.cell (World.block_lt_of_cell? w _ hw177_6)).trans hw177_6), ((HB.out.cell (World.block_lt_of_cell? w _ hw177_7)).trans hw177_7), ((HB.out.cell (World.block_lt_of_cell? w _ hw177_8)).trans hw177_8), ((HB.out.cell (World.block_lt_of_cell? w _ hw177_9)).trans hw177_9), ((HB.out.cell (World.block_lt_of_cell? w _ hw178_0)).trans hw178_0), ((HB.out.cell (World.block_lt_of_cell? w _ hw178_1)).trans hw178_1), ((HB.out.cell (World.block_lt_of_cell? w _ hw178_2)).trans hw178_2), ((HB.out.cell (World.block_lt_of_cell? w _ hw178_3)).trans hw178_3), ((HB.out.cell (World.block_lt_of_cell? w _ hw178_4)).trans hw178_4), ((HB.out.cell (World.block_lt_of_cell? w _ hw178_5)).trans hw178_5), ((HB.out.cell (World.block_lt_of_cell? w _ hw178_6)).trans hw178_6), ((HB.out.cell (World.block_lt_of_cell? w _ hw178_7)).trans hw178_7), ((HB.out.cell (World.block_lt_of_cell? w _ hw178_8)).trans hw178_8), ((HB.out.cell (World.block_lt_of_cell? w _ hw178_9)).trans hw178_9)⟩ (fun hHeld => ?_)
                                          clear hK K
                                          refine norm_ (a' := ?_) ?_ ?_
                                          rotate_left
                                          · show Act.put _ (some 64) _ = _
                                            simp only [Act.put, List.setIfInBounds_toArray, List.set_cons_zero, List.set_cons_succ, i64_w, i32_w]
                                            rfl
                                          refine pure_ (i := 16) (N := some 65) (v := ?_) (a' := ?_) #[true, true, true, true, true, true, true, true, true, true, true, true, true, true, true, true, true] rfl rfl (any_of HT_.out (by kernel_rfl)) (fun _ _ _ h => h) (Or.inl ⟨by rfl, ?_⟩) ?_ ?_
                                          rotate_left
                                          · intro w'
                                            go_simp
                                            with_reducible rfl
                                          rotate_left
                                          · simp only [Act.put, List.setIfInBounds_toArray, List.set_cons_zero, List.set_cons_succ, i64_w, i32_w]
                                            rfl
                                          refine done_ (done_of HT_.out (by kernel_rfl)) ?_
                                          try go_wp2
                                          go_roundg kj18
                                          case measure => have := HJ3.out; have := HK2.out; have := HK3.out; have := HJ18.out; omega
                                          case rel => exact ⟨(x8_3), (x11_3), (wrap64 (x12_3 - 1)), (by first | rfl | (simp; done) | (simp [*]; done)), (by first | rfl | (simp; done) | (simp [*]; done)), H', ⟨by have := HJ3.out; have := HK2.out; have := HK3.out; have := HJ18.out; omega⟩, ⟨by (with_reducible repeat (first | apply Kd.R_alloc | apply Kd.R_drewN | apply Kd.R_drew)); exact HO_8.out⟩, ⟨by repeat (first | (with_reducible first | exact HB.out | apply below_alloc | apply pw_below_drewN | apply below_drew1) | exact HB.out)⟩⟩
                                      · rw [if_neg c30] at H
                                        exact absurd H (by simp)
                                    · rw [if_neg c29] at H
                                      exact absurd H (by simp)
                                  · rw [if_neg c28] at H
                                    exact absurd H (by simp)
                              · rw [if_neg c23] at H
                                exact absurd H (by simp)
                            · rw [if_neg c22] at H
                              exact absurd H (by simp)
                          · replace c21 := Bool.eq_false_iff.mpr c21
                            subst c21
                            have H1 : (if x9_2 = true then (chamberlainlaw19_LogGives.l0 kj18 l0 l1 (wrap64 (Int.tmod a2 512)) x8_3 x11_3 (wrap64 (x10_2 + 1))) else (chamberlainlaw19_LogGives.l0 kj18 l0 l1 (wrap64 (Int.tmod a2 512)) x8_3 false (wrap64 (x10_2 + 1)))) = some r := by rw [if_neg (show ¬ (false = true) by decide)] at H; exact H
                            clear H
                            have H := H1
                            clear H1
                            by_cases c42 : x9_2 = true
                            · subst c42
                              have H1 : (chamberlainlaw19_LogGives.l0 kj18 l0 l1 (wrap64 (Int.tmod a2 512)) x8_3 x11_3 (wrap64 (x10_2 + 1))) = some r := by rw [if_pos rfl] at H; exact H
                              clear H
                              have H := H1
                              clear H1
                              have H' := Aside0.mk H
                              clear H
                              go_wp2
                              go_roundg kj18
                              case measure => have := HJ3.out; have := HK2.out; have := HK3.out; have := HJ18.out; omega
                              case rel => exact ⟨(x8_3), (x11_3), (wrap64 (x10_2 + 1)), (by first | rfl | (simp; done) | (simp [*]; done)), (by first | rfl | (simp; done) | (simp [*]; done)), H', ⟨by have := HJ3.out; have := HK2.out; have := HK3.out; have := HJ18.out; omega⟩, ⟨by (with_reducible repeat (first | apply Kd.R_alloc | apply Kd.R_drewN | apply Kd.R_drew)); exact HO_8.out⟩, ⟨by repeat (first | (with_reducible first | exact HB.out | apply below_alloc | apply pw_below_drewN | apply below_drew1) | exact HB.out)⟩⟩
                            · replace c42 := Bool.eq_false_iff.mpr c42
                              subst c42
                              have H1 : (chamberlainlaw19_LogGives.l0 kj18 l0 l1 (wrap64 (Int.tmod a2 512)) x8_3 false (wrap64 (x10_2 + 1))) = some r := by rw [if_neg (show ¬ (false = true) by decide)] at H; exact H
                              clear H
                              have H := H1
                              clear H1
                              have H' := Aside0.mk H
                              clear H
                              go_wp2
                              go_roundg kj18
                              case measure => have := HJ3.out; have := HK2.out; have := HK3.out; have := HJ18.out; omega
                              case rel => exact ⟨(x8_3), (false), (wrap64 (x10_2 + 1)), (by first | rfl | (simp; done) | (simp [*]; done)), (by first | rfl | (simp; done) | (simp [*]; done)), H', ⟨by have := HJ3.out; have := HK2.out; have := HK3.out; have := HJ18.out; omega⟩, ⟨by (with_reducible repeat (first | apply Kd.R_alloc | apply Kd.R_drewN | apply Kd.R_drew)); exact HO_8.out⟩, ⟨by repeat (first | (with_reducible first | exact HB.out | apply below_alloc | apply pw_below_drewN | apply below_drew1) | exact HB.out)⟩⟩
                · rw [if_neg c18] at H
                  have c18b0 : decide (x10_2 < (l0.length : Int)) = false := decide_eq_false c18
                  clear c18
                  replace H := Option.bind_eq_some_iff.mp H
                  obtain ⟨t175, A430, H⟩ := H
                  replace H : (some (t175 == x9_2)) = some r := H
                  have A43 := Aside0.mk A430
                  clear A430
                  obtain rfl := Option.some.inj H
                  go_wp2_with (first | ((with_reducible refine gate_callee (f := 15) rfl ?_); refine goesL_ (some 76) rfl rfl Try.func15 (by kernel_rfl) rfl #[.slice A0 l0.length c0, .slice A1 l1.length c1, .int .i64 (wrap64 (Int.tmod a2 512))] rfl (by (try simp only [List.map_toArray, List.map_cons, List.map_nil]); first | done | rfl | (simp only [List.length_drop, List.length_take]; rfl)) ?_; (with_reducible refine (log_Match.calls _ _ l0 _ _ l1 (wrap64 (Int.tmod a2 512)) t175 _ ?side1 ?side2 ?side3 ?side4 A43.out).mono ?_); (case side1 => repeat (first | exact (Kd.C_below HR0.out HB.out) | (with_reducible refine Kd.C_alloc ?_ _) | (with_reducible refine Kd.C_drewN ?_ _) | (with_reducible refine Kd.C_drew ?_))); (case side2 => exact HC0.out); (case side3 => repeat (first | exact (Kd.C_below HR1.out HB.out) | (with_reducible refine Kd.C_alloc ?_ _) | (with_reducible refine Kd.C_drewN ?_ _) | (with_reducible refine Kd.C_drew ?_))); (case side4 => exact HC1.out); rintro e w44 ⟨rfl, hb⟩; refine ⟨_, rfl, ?_⟩; have n0_ := Aside0.mk (Kd.R_below (by (with_reducible repeat (first | apply Kd.R_alloc | apply Kd.R_drewN | apply Kd.R_drew)); exact HO_8.out) hb); have n1_ := Aside0.mk (below_step (by repeat (first | (with_reducible first | exact HB.out | apply below_alloc | apply pw_below_drewN | apply below_drew1) | exact HB.out)) hb); clear HO_8; clear HB; have HO_8 := n0_; have HB := n1_; clear n0_ n1_; (try clear hb); (try clear hb2); (try clear hk); (try clear hi)))
                  go_ret
                  exact ⟨by first | rfl | (simp [errW_none, errW_some] <;> rfl) | (simp [*, errW_none, errW_some] <;> rfl), by repeat (first | (with_reducible first | exact HB.out | apply below_alloc | apply pw_below_drewN | apply below_drew1) | exact HB.out)⟩
          · rw [if_neg c15] at H
            exact absurd H (by simp)
        · rw [if_neg c14] at H
          exact absurd H (by simp)

end Go.Proofs.Ytmmpiblmggkghaa.PLogGives
